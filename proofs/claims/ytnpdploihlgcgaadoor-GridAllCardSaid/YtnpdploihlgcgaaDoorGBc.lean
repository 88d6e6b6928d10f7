/- The reference's moves and stack cells: the walks. -/
import Derived.Test.YtnpdploihlgcgaaDoorGPc
set_option linter.unusedSimpArgs false
set_option linter.unusedVariables false
set_option maxRecDepth 100000
namespace Go.Proofs.YtnpdploihlgcgaaDoor
open Go Go.HL

theorem runFrom_len {α : Type} {ok : Nat → Bool} {mk : Nat → α} : ∀ {k n : Nat}, (runFrom ok mk n k).length ≤ k
  | 0, n => Nat.le_refl _
  | k + 1, n => by
    unfold runFrom
    split
    · have := runFrom_len (ok := ok) (mk := mk) (k := k) (n := n + 1)
      simp only [List.length_cons]; omega
    · simp
theorem dirsL_len {α : Type} {D : Nat → List α} {b : Nat} (h : ∀ i, (D i).length ≤ b) : ∀ {k i : Nat}, (dirsL D i k).length ≤ k * b
  | 0, i => by simp [dirsL]
  | k + 1, i => by
    unfold dirsL
    have := dirsL_len h (k := k) (i := i + 1)
    have := h i
    rw [List.length_append, Nat.succ_mul]
    omega

end Go.Proofs.YtnpdploihlgcgaaDoor
