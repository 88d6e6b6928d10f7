/- GridMoves: the walk. -/
import Derived.Test.YtnpdploihlgcgaaDoorGMa
import Derived.Test.YtnpdploihlgcgaaDoorGBc
import Derived.Test.YtnpdploihlgcgaaDoorGAw
set_option linter.unusedSimpArgs false
set_option linter.unusedVariables false
set_option maxRecDepth 100000
namespace Go.Proofs.YtnpdploihlgcgaaDoor
open Go Go.HL

theorem rmoves_len {C : Conf} {p : Pose} : (rmovesL C p).length ≤ 1000 := by
  unfold rmovesL
  split
  · have := dirsL_len (D := rrunD C p) (b := 16) (fun i => runFrom_len) (k := 4) (i := 0)
    rw [List.length_append]
    split <;> simp <;> omega
  · simp
end Go.Proofs.YtnpdploihlgcgaaDoor
