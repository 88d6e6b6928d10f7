/- Slots kept in an array; a robot that had nothing: the walk. -/
import Derived.Test.YtbloobepmgmbgaaRRh
set_option linter.unusedSimpArgs false
set_option linter.unusedVariables false
set_option maxRecDepth 100000
namespace Go.Proofs.Ytbloobepmgmbgaa
open Go Go.HL Go.Proofs.Resv

theorem una6 : Try.prog.underlying 56 = some (.array 6 32) := by kernel_rfl
theorem ixw {G h : Hp} {wb : Nat} {i : Int} {K : Value → Hp → Prop} (h1 : 0 ≤ i) (h2 : i < 6) : wpH Try.prog G (Instr.indexAt 56 (.pointer (some ⟨wb, 0, none⟩)) (.int .i64 i)) h K = K (.pointer (some ⟨wb, i.toNat, none⟩)) h := by
  rw [index_arr una6 sz32 h1 h2, add_mk, Nat.mul_one, Nat.zero_add]
theorem ixwp {G h : Hp} {wb : Nat} {i : Int} {K : Value → Prop} (h1 : 0 ≤ i) (h2 : i < 6) : pw Try.prog G h (Instr.indexAt 56 (.pointer (some ⟨wb, 0, none⟩)) (.int .i64 i)) K = K (.pointer (some ⟨wb, i.toNat, none⟩)) := by
  rw [index_arrp una6 sz32 h1 h2, add_mk, Nat.mul_one, Nat.zero_add]

/-- Six rows kept. -/
def Was (a : Hp) (wb : Nat) (W : Tb) : Prop := ∃ raws pb, HL.Sep [noHp.set wb (.cells (svC.rows raws).toArray 56 (0, 0)), pb] a ∧ Rows pb raws W
theorem Was.get {G a h : Hp} {wb c : Nat} {W : Tb} {L : List Slot} (t : Was a wb W) (l : a.le h) (hc : W[c]? = some L) : ∃ sa cap, cellIn G h ⟨wb, c, none⟩ = some (.slice sa L.length cap) ∧ Sees slotC G h (.slice sa L.length cap) L := by
  obtain ⟨raws, pb, s, hl, hr⟩ := t
  have hlt : c < raws.length := by rw [hl]; exact (List.getElem?_eq_some_iff.1 hc).1
  obtain ⟨e1, o⟩ := hr c _ L (List.getElem?_eq_getElem hlt) hc
  refine ⟨raws[c].1, raws[c].2.2, ?_, o.sees (by decide) ((s.in 1 rfl).trans l)⟩
  rw [sv_get (l _ _ (s.at 0 rfl set_self)) (List.getElem?_eq_getElem hlt), e1]

theorem was_store {a io h : Hp} {R : List Hp} {G : Hp} {wb c : Nat} {W : Tb} {L : List Slot} {v : Value} (t : Was a wb W) (s : HL.Sep (io :: a :: R) h) (d : Dis G h) (o : Slc slotC 35 io v L) (hc : c < W.length) :
    ∃ (l : List Value), h wb = some (.cells l.toArray 56 (0, 0)) ∧ c < l.length ∧
      ∃ a', Was a' wb (W.set c L) ∧ HL.Sep (a' :: R) (h.set wb (.cells (l.set c v).toArray 56 (0, 0))) ∧ Dis G (h.set wb (.cells (l.set c v).toArray 56 (0, 0))) := by
  obtain ⟨raws, pb, st, hl, hr⟩ := t
  have s1 := s.split st
  simp only [List.cons_append, List.nil_append] at s1
  have hrb : h wb = some (.cells (svC.rows raws).toArray 56 (0, 0)) := s1.at 1 rfl set_self
  obtain ⟨sa, cap, rfl, _⟩ := o.len (by decide)
  refine ⟨svC.rows raws, hrb, by rw [svC.rows_length, show svC.n = 1 from rfl, hl]; omega, ?_⟩
  have e := sv_set (raws := raws) (c := c) (s := (sa, L.length, cap)) (by omega)
  simp only at e
  rw [e]
  have s2 := (s1.pick 1 rfl rfl).put (o := Obj.cells (svC.rows (raws.set c (sa, L.length, cap))).toArray 56 (0, 0)) set_self
  rw [set_set] at s2
  have s3 := (s2.pick 2 rfl rfl).pick 2 rfl rfl
  obtain ⟨pb', s4, t4⟩ := sep_pack2 s3
  have s5 := s4.pick 1 rfl rfl
  obtain ⟨a', s6, t6⟩ := sep_pack2 s5
  refine ⟨a', ⟨raws.set c (sa, L.length, cap), pb', t6, by simp [hl], fun i s L' h1 h2 => ?_⟩, s6, d.set (d _ _ hrb)⟩
  by_cases hi : i = c
  · subst hi
    rw [List.getElem?_set_self (by omega)] at h1 h2
    cases h1
    cases h2
    exact ⟨rfl, o.le (t4.in 0 rfl)⟩
  · rw [List.getElem?_set_ne (Ne.symm hi)] at h1 h2
    obtain ⟨e1, e2⟩ := hr i s L' h1 h2
    exact ⟨e1, e2.le (t4.in 1 rfl)⟩

theorem was_new {wb : Nat} {T : Tb} : Was (noHp.set wb (.cells #[(.slice none 0 0), (.slice none 0 0), (.slice none 0 0), (.slice none 0 0), (.slice none 0 0), (.slice none 0 0)] 56 (0, 0))) wb (T.take 0 ++ List.replicate (6 - 0) []) := by
  refine ⟨List.replicate 6 (none, 0, 0), noHp, ⟨fun a ha => ?_, ?_⟩, by simp, fun i s L h1 h2 => ?_⟩
  · simp only [List.mem_cons, List.not_mem_nil, or_false] at ha
    rcases ha with rfl | rfl
    · exact Hp.le.refl _
    · intro _ _ e; cases e
  · refine List.pairwise_cons.2 ⟨fun c hc y => ?_, List.pairwise_singleton _ _⟩
    simp at hc
    subst hc
    exact .inr rfl
  · rw [List.take_zero, List.nil_append] at h2
    rw [List.getElem?_replicate] at h1 h2
    split at h1
    · rename_i hi
      rw [if_pos hi] at h2
      cases h1
      cases h2
      exact ⟨rfl, Slc.nil⟩
    · cases h1
theorem was_step {T : Tb} {c : Nat} (hT : c < T.length) (hc : c < 6) : (T.take c ++ List.replicate (6 - c) []).set c (rowT T c) = T.take (c + 1) ++ List.replicate (6 - (c + 1)) [] := by
  have e1 := rowT_get (T := T) (c := c) (by omega) (by omega)
  rw [Int.toNat_natCast] at e1
  rw [List.set_append_right _ _ (by simp; omega), List.length_take, Nat.min_eq_left (by omega), Nat.sub_self, show 6 - c = (6 - (c + 1)) + 1 by omega, List.replicate_succ, List.set_cons_zero, List.take_add_one, e1]
  simp

theorem put_has {r : Int} {T : Tb} {w : Want} (hr : 0 ≤ r) (g : GoodT T) (hv : validW T.length w = true) (hf : freeW T r w = true) (c r' x : Int) : has (rowT (putW r T w) c) r' x ↔ has (rowT T c) r' x ∨ (r' = r ∧ c = w.c ∧ w.f ≤ x ∧ x < w.t) := by
  obtain ⟨⟨c0, c1⟩, f0, f1, f2⟩ := valid_iff.1 hv
  unfold putW
  rw [rowT_set c0 c1]
  split
  · rename_i e
    subst e
    rw [(put_spec (rowT_good g _) f0 f1 f2 hr hf).2.1]
    constructor
    · rintro (h | ⟨h1, h2⟩)
      · exact .inl h
      · exact .inr ⟨h1, rfl, h2⟩
    · rintro (h | ⟨h1, _, h2⟩)
      · exact .inl h
      · exact .inr ⟨h1, h2⟩
  · rename_i e
    constructor
    · exact .inl
    · rintro (h | h)
      · exact h
      · exact absurd h.2.1 e

theorem some_few : ∀ (T : Tb), ∃ b, Few T b
  | [] => ⟨0, fun L h => by cases h⟩
  | L :: T => by
    obtain ⟨b, h⟩ := some_few T
    refine ⟨max b L.length, fun M hM => ?_⟩
    rcases List.mem_cons.1 hM with rfl | h1
    · exact Nat.le_max_right _ _
    · exact Nat.le_trans (h M h1) (Nat.le_max_left _ _)
theorem puts_has {r : Int} (hr : 0 ≤ r) : ∀ {l : List Want} {T : Tb}, GoodT T → l.all (validW T.length) = true → l.all (freeW T r) = true → ∀ c r' x, has (rowT (putsT r T l) c) r' x ↔ has (rowT T c) r' x ∨ (r' = r ∧ ∃ w ∈ l, c = w.c ∧ w.f ≤ x ∧ x < w.t) := by
  intro l
  induction l with
  | nil => intro T g _ _ c r' x; simp [putsT]
  | cons w l ih =>
    intro T g hv hf c r' x
    rw [List.all_cons, Bool.and_eq_true] at hv hf
    obtain ⟨b, fb⟩ := some_few T
    obtain ⟨g1, _, k1⟩ := putW_inv hr g fb hv.1 hf.1
    have e1 : (l.all (freeW (putW r T w) r)) = l.all (freeW T r) := by congr 1; funext u; exact k1 u
    have := ih (T := putW r T w) g1 (by rw [putW_len]; exact hv.2) (by rw [e1]; exact hf.2) c r' x
    show has (rowT (putsT r (putW r T w) l) c) r' x ↔ _
    rw [this, put_has hr g hv.1 hf.1]
    constructor
    · rintro ((h | ⟨h1, h2⟩) | ⟨h1, u, h2, h3⟩)
      · exact .inl h
      · exact .inr ⟨h1, w, .head _, h2⟩
      · exact .inr ⟨h1, u, .tail _ h2, h3⟩
    · rintro (h | ⟨h1, u, h2, h3⟩)
      · exact .inl (.inl h)
      · rcases List.mem_cons.1 h2 with rfl | h2
        · exact .inl (.inr ⟨h1, h3⟩)
        · exact .inr ⟨h1, u, h2, h3⟩

def late : Int := 2199023255552
end Go.Proofs.Ytbloobepmgmbgaa
