/- The program's grid answers as the reference's. -/
import Derived.Test.YtnpdploihlgcgaaDoorGR
import Derived.Test.YtnpdploihlgcgaaDoorGP
set_option linter.unusedSimpArgs false
set_option linter.unusedVariables false
namespace Go.Proofs.YtnpdploihlgcgaaDoor
open Go Go.HL

variable {C : Conf}

theorem f3_open (m : MadeOk C) (x y : Nat) : f3C C x y = -1 ↔ f0C C x y = -1 := by
  unfold f3C
  refine f2_open (fun c hc => ?_) x y
  obtain ⟨p, hp, hcp⟩ := List.mem_flatMap.1 hc
  exact (fits_cells (m.rob.fit p hp) c hcp).2

theorem open3_eq (m : MadeOk C) (c : Cell) : openW (wC C) (kC C) (f3C C) c = openB C c := by
  rw [← open_eq m.laid.w m.laid.h]
  exact openW_congr (fun x y _ _ => f3_open m x y) c
theorem fits3_eq (m : MadeOk C) (p : Pose) : fitsW (wC C) (kC C) (f3C C) p = fitsB C p := by
  rw [← fits_eq m.laid.w m.laid.h]
  exact fitsW_congr (fun x y _ _ => f3_open m x y) p
end Go.Proofs.YtnpdploihlgcgaaDoor
