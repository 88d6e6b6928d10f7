/- Slots kept in an array; a robot that had nothing: the walk. -/
import Derived.Test.YtbloobepmgmbgaaRRh
set_option linter.unusedSimpArgs false
set_option linter.unusedVariables false
set_option maxRecDepth 100000
namespace Go.Proofs.Ytbloobepmgmbgaa
open Go Go.HL Go.Proofs.Resv

/-- Six rows kept. -/
def Was (a : Hp) (wb : Nat) (W : Tb) : Prop := ∃ raws pb, HL.Sep [noHp.set wb (.cells (svC.rows raws).toArray 56 (0, 0)), pb] a ∧ Rows pb raws W
theorem Was.get {G a h : Hp} {wb c : Nat} {W : Tb} {L : List Slot} (t : Was a wb W) (l : a.le h) (hc : W[c]? = some L) : ∃ sa cap, cellIn G h ⟨wb, c, none⟩ = some (.slice sa L.length cap) ∧ Sees slotC G h (.slice sa L.length cap) L := by
  obtain ⟨raws, pb, s, hl, hr⟩ := t
  have hlt : c < raws.length := by rw [hl]; exact (List.getElem?_eq_some_iff.1 hc).1
  obtain ⟨e1, o⟩ := hr c _ L (List.getElem?_eq_getElem hlt) hc
  refine ⟨raws[c].1, raws[c].2.2, ?_, o.sees (by decide) ((s.in 1 rfl).trans l)⟩
  rw [sv_get (l _ _ (s.at 0 rfl set_self)) (List.getElem?_eq_getElem hlt), e1]

theorem put_has {r : Int} {T : Tb} {w : Want} (hr : 0 ≤ r) (g : GoodT T) (hv : validW T.length w = true) (hf : freeW T r w = true) (c r' x : Int) : has (rowT (putW r T w) c) r' x ↔ has (rowT T c) r' x ∨ (r' = r ∧ c = w.c ∧ w.f ≤ x ∧ x < w.t) := by
  obtain ⟨⟨c0, c1⟩, f0, f1, f2⟩ := valid_iff.1 hv
  unfold putW
  rw [rowT_set c0 c1]
  split
  · rename_i e
    subst e
    rw [(put_spec (rowT_good g _) f0 f1 f2 hr hf).2.1]
    constructor
    · rintro (h | ⟨h1, h2⟩)
      · exact .inl h
      · exact .inr ⟨h1, rfl, h2⟩
    · rintro (h | ⟨h1, _, h2⟩)
      · exact .inl h
      · exact .inr ⟨h1, h2⟩
  · rename_i e
    constructor
    · exact .inl
    · rintro (h | h)
      · exact h
      · exact absurd h.2.1 e

theorem some_few : ∀ (T : Tb), ∃ b, Few T b
  | [] => ⟨0, fun L h => by cases h⟩
  | L :: T => by
    obtain ⟨b, h⟩ := some_few T
    refine ⟨max b L.length, fun M hM => ?_⟩
    rcases List.mem_cons.1 hM with rfl | h1
    · exact Nat.le_max_right _ _
    · exact Nat.le_trans (h M h1) (Nat.le_max_left _ _)
theorem puts_has {r : Int} (hr : 0 ≤ r) : ∀ {l : List Want} {T : Tb}, GoodT T → l.all (validW T.length) = true → l.all (freeW T r) = true → ∀ c r' x, has (rowT (putsT r T l) c) r' x ↔ has (rowT T c) r' x ∨ (r' = r ∧ ∃ w ∈ l, c = w.c ∧ w.f ≤ x ∧ x < w.t) := by
  intro l
  induction l with
  | nil => intro T g _ _ c r' x; simp [putsT]
  | cons w l ih =>
    intro T g hv hf c r' x
    rw [List.all_cons, Bool.and_eq_true] at hv hf
    obtain ⟨b, fb⟩ := some_few T
    obtain ⟨g1, _, k1⟩ := putW_inv hr g fb hv.1 hf.1
    have e1 : (l.all (freeW (putW r T w) r)) = l.all (freeW T r) := by congr 1; funext u; exact k1 u
    have := ih (T := putW r T w) g1 (by rw [putW_len]; exact hv.2) (by rw [e1]; exact hf.2) c r' x
    show has (rowT (putsT r (putW r T w) l) c) r' x ↔ _
    rw [this, put_has hr g hv.1 hf.1]
    constructor
    · rintro ((h | ⟨h1, h2⟩) | ⟨h1, u, h2, h3⟩)
      · exact .inl h
      · exact .inr ⟨h1, w, .head _, h2⟩
      · exact .inr ⟨h1, u, .tail _ h2, h3⟩
    · rintro (h | ⟨h1, u, h2, h3⟩)
      · exact .inl (.inl h)
      · rcases List.mem_cons.1 h2 with rfl | h2
        · exact .inl (.inr ⟨h1, h3⟩)
        · exact .inr ⟨h1, u, h2, h3⟩

def late : Int := 2199023255552
end Go.Proofs.Ytbloobepmgmbgaa
