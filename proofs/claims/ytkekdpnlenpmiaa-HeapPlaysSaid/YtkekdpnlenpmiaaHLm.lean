/- Arguments as the ground: slices of plain data that are read only; the end of a law. -/
import Derived.Test.YtkekdpnlenpmiaaHLl
import Derived.WalkKit
import Derived.ProofKit
import Derived.OpenShut
import Derived.ChangeAt
import Derived.ChangeSlices
set_option linter.unusedVariables false
set_option linter.unusedSimpArgs false
namespace Go.HL
open Go
section
variable {P : Program}

/-- The world ahead of the call, read only. -/
def ground (w : World) : Hp := fun b => w.heap[b]?

/-- No block of the ground is owned. -/
def Dis (G h : Hp) : Prop := ∀ b o, h b = some o → G b = none
theorem Dis.start {G : Hp} : Dis G noHp := fun _ _ e => by cases e
theorem Dis.set {G h : Hp} {x : Nat} {o : Obj} (d : Dis G h) (gx : G x = none) : Dis G (h.set x o) := by
  intro b p e
  by_cases hb : b = x
  · rw [hb]; exact gx
  · rw [set_other hb] at e; exact d b p e

theorem ground_cell {w : World} {a : Addr} {v : Value} (e : w.cell? a = some v) {h : Hp} (d : Dis (ground w) h) : cellIn (ground w) h a = some v := by
  unfold cellIn look
  unfold World.cell? at e
  cases hb : w.heap[a.block]? with
  | none => rw [hb] at e; simp at e
  | some o =>
    have h2 : h a.block = none := by
      cases hh : h a.block with
      | none => rfl
      | some p => have := d _ _ hh; unfold ground at this; rw [hb] at this; cases this
    rw [hb] at e
    rw [h2]
    simp only [ground, hb]
    rw [← e]
    cases o <;> rfl

theorem whole_ground {w : World} : whole (ground w) w = noHp := by
  funext b
  unfold whole ground noHp
  cases w.heap[b]? <;> rfl

theorem calls_ground {f : FuncId} {args : Array Value} {w : World} {R : Value → Prop} (c : HCalls P (ground w) f args noHp (fun v _ => R v)) :
    Calls P f args w fun e w' => (∃ v, e = .returned v ∧ R v) ∧ Go.RowKit.Below w.heap.size w w' := by
  refine calls_quiet (G := ground w) (fun b o e => e) ?_
  rw [whole_ground]
  exact c.less fun v h' r => ⟨noHp, fun _ _ e => (by cases e), r, rfl⟩

/-- A slice of integers in the ground. -/
def RdI (G : Hp) (v : Value) (K : List Int) : Prop :=
  ∃ sa cap, v = .slice sa K.length cap ∧ (K = [] ∨ ∃ a, sa = some a ∧ ∀ h, Dis G h → ∀ i, i < K.length → cellIn G h (a.add i) = some (.int .i64 (K.getD i 0)))

/-- A slice of things in the ground. -/
def Rd {α : Type} (c : Cod α) (G : Hp) (v : Value) (L : List α) : Prop :=
  ∃ sa cap, v = .slice sa L.length cap ∧ (L = [] ∨ ∃ a, sa = some a ∧ ∀ h, Dis G h → ∀ j, j < (c.rows L).length → cellIn G h (a.add j) = (c.rows L)[j]?)

end

open Go.ChangeShapes Go.WideShapes Go.ChangeAt Go.RowKit

theorem open_rdI {H : Type} {enc : TypeId × Value → H} {P : Program} {w : World} {base : Nat} {spare : Nat → Bool} {held : Bool} {t e : TypeId} {fuel : Nat} {v : Value} {x : DataW H × List MemPlace}
    (ht : P.underlying t = some (.slice e)) (he : P.underlying e = some (.int .i64)) (hc : P.cellsOf e = 1)
    (h : DataW.trod enc P w base spare held fuel t [v] = some x) : ∃ K, RdI (ground w) v K := by
  rcases open_ints ht he hc h with ⟨h1, _⟩ | ⟨a, len, cap, zs, h1, h2, h3, h4, h5, h6, h7, h8⟩
  · cases h1
    exact ⟨[], none, 0, rfl, .inl rfl⟩
  · cases h1
    have hl : len ≤ zs.length := by rw [h5]; split <;> omega
    refine ⟨zs.take len, some a, cap, by rw [List.length_take, Nat.min_eq_left hl], .inr ⟨a, rfl, fun h d i hi => ?_⟩⟩
    rw [List.length_take] at hi
    have := ground_cell (h7 i (by omega)) d
    rw [this]
    congr 2
    rw [List.getD_eq_getElem?_getD, List.getD_eq_getElem?_getD, List.getElem?_take, if_pos (by omega)]
theorem arg_rdI {H : Type} {enc : TypeId × Value → H} {P : Program} {w : World} {base base' : Nat} {spare : Nat → Bool} {held : Bool} {t e : TypeId} {v : Value} {d : DataW H} {ps : List MemPlace} {r : Reach}
    (ht : P.underlying t = some (.slice e)) (he : P.underlying e = some (.int .i64)) (hc : P.cellsOf e = 1)
    (hv : Value.okWide P w r base' t v) (h : DataW.Trod enc P w base spare held t v d ps) : ∃ K, RdI (ground w) v K := by
  obtain ⟨a, len, cap, rfl⟩ := okWide_slice ht hv
  obtain ⟨n, h⟩ := h
  exact open_rdI ht he hc h
end Go.HL
