/- ResvOwn: the walk. -/
import Derived.Test.YtbloobepmgmbgaaRK
set_option linter.unusedSimpArgs false
set_option linter.unusedVariables false
set_option maxRecDepth 100000
namespace Go.Proofs.Ytbloobepmgmbgaa
open Go Go.HL Go.Proofs.Resv

theorem eowant : ElemOk Try.prog 30 wantC.n 24 := eo30
/-- A row of one's own: its block. -/
theorem Slc.block {α : Type} {c : Cod α} {e : TypeId} {a : Hp} {v : Value} {L : List α} (o : Slc c e a v L) (hL : L ≠ []) : ∃ b cap t, v = .slice (some ⟨b, 0, none⟩) L.length cap ∧ a b = some (.cells (c.rows L ++ t).toArray e (0, 0)) ∧ (c.rows L ++ t).length = cap * c.n := by
  obtain ⟨ob, o⟩ := o
  cases ob with
  | none => exact absurd o.2 hL
  | some b => obtain ⟨cap, t, e1, e2, e3⟩ := o; exact ⟨b, cap, t, e1, e2, e3⟩

end Go.Proofs.Ytbloobepmgmbgaa
