/- Slots kept in an array; a robot that had nothing: the walk. -/
import Derived.Test.YtbloobepmgmbgaaRRh
set_option linter.unusedSimpArgs false
set_option linter.unusedVariables false
set_option maxRecDepth 100000
namespace Go.Proofs.Ytbloobepmgmbgaa
open Go Go.HL Go.Proofs.Resv

/-- Six rows kept. -/
def Was (a : Hp) (wb : Nat) (W : Tb) : Prop := ∃ raws pb, HL.Sep [noHp.set wb (.cells (svC.rows raws).toArray 56 (0, 0)), pb] a ∧ Rows pb raws W
theorem Was.get {G a h : Hp} {wb c : Nat} {W : Tb} {L : List Slot} (t : Was a wb W) (l : a.le h) (hc : W[c]? = some L) : ∃ sa cap, cellIn G h ⟨wb, c, none⟩ = some (.slice sa L.length cap) ∧ Sees slotC G h (.slice sa L.length cap) L := by
  obtain ⟨raws, pb, s, hl, hr⟩ := t
  have hlt : c < raws.length := by rw [hl]; exact (List.getElem?_eq_some_iff.1 hc).1
  obtain ⟨e1, o⟩ := hr c _ L (List.getElem?_eq_getElem hlt) hc
  refine ⟨raws[c].1, raws[c].2.2, ?_, o.sees (by decide) ((s.in 1 rfl).trans l)⟩
  rw [sv_get (l _ _ (s.at 0 rfl set_self)) (List.getElem?_eq_getElem hlt), e1]

theorem some_few : ∀ (T : Tb), ∃ b, Few T b
  | [] => ⟨0, fun L h => by cases h⟩
  | L :: T => by
    obtain ⟨b, h⟩ := some_few T
    refine ⟨max b L.length, fun M hM => ?_⟩
    rcases List.mem_cons.1 hM with rfl | h1
    · exact Nat.le_max_right _ _
    · exact Nat.le_trans (h M h1) (Nat.le_max_left _ _)
def late : Int := 2199023255552
end Go.Proofs.Ytbloobepmgmbgaa
