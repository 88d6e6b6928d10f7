/- The reference: which moves are legal. -/
import Derived.Test.YtnpdploihlgcgaaDoorGBa
import Derived.Test.YtnpdploihlgcgaaDoorGPb
set_option linter.unusedSimpArgs false
set_option linter.unusedVariables false
set_option maxRecDepth 100000
namespace Go.Proofs.YtnpdploihlgcgaaDoor
open Go Go.HL

def rstepB (C : Conf) (m : Move) (i : Nat) : Bool := fitsB C (shiftR m.f m.d ((i : Int) + 1))
def legalR (C : Conf) (m : Move) : Bool := fitsB C m.f &&
  (if m.k = 1 then withinB m.n 1 16 && (withinB m.d 0 3 && (decide (m.t = shiftR m.f m.d m.n) && (List.range m.n.toNat).all (rstepB C m)))
   else if m.k = 2 then (squareL (m.f.x, m.f.y)).all (openB C) && (decide (m.n = 0) && (decide (m.d = 0) && decide (m.t = turnP m.f)))
   else decide (m.k = 3 ∨ m.k = 4) && (decide (m.n = 0) && (decide (m.d = 0) && decide (m.t = m.f))))

end Go.Proofs.YtnpdploihlgcgaaDoor
