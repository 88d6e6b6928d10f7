/- Arguments of any plain struct: by the fields' types and places. -/
import Derived.Test.YtkekdpnlenpmiaaHLr
set_option linter.unusedVariables false
set_option linter.unusedSimpArgs false
namespace Go.HL
open Go Go.ChangeShapes Go.WideShapes Go.RowKit

def structFields (P : Program) (e : TypeId) : Option (List (TypeId × Nat)) := match P.underlying e with
  | some (.struct fs) => some (fs.toList.map fun f => (f.type, f.offset))
  | _ => none

theorem dec_fields {H : Type} {enc : TypeId × Value → H} {P : Program} {w : World} {base : Nat} {spare : Nat → Bool} {held : Bool} {e : TypeId} {fuel : Nat} {cs : List Value} {y : DataW H × List MemPlace} {tos : List (TypeId × Nat)} (ht : structFields P e = some tos)
    (h : DataW.trod enc P w base spare held fuel e cs = some y) : cs.length = P.cellsOf e ∧ ∀ (i : Nat) (t o : Nat), tos[i]? = some (t, o) → ∃ m z, DataW.trod enc P w base spare held m t ((cs.drop o).take (P.cellsOf t)) = some z := by
  unfold structFields at ht
  split at ht
  · rename_i fs hfs
    obtain ⟨h1, h2⟩ := dec_struct hfs h
    refine ⟨h1, fun i t o hi => ?_⟩
    simp only [Option.some.injEq] at ht
    subst ht
    rw [List.getElem?_map, Array.getElem?_toList] at hi
    cases q : fs[i]? with
    | none => rw [q] at hi; cases hi
    | some f =>
      rw [q] at hi
      simp only [Option.map_some, Option.some.injEq, Prod.mk.injEq] at hi
      obtain ⟨rfl, rfl⟩ := hi
      exact h2 i f q
  · cases ht
end Go.HL
