/- The reference's shift and number; rows of cells held against each other; a place. -/
import Derived.Test.YtnpdploihlgcgaaDoorGQ
set_option linter.unusedSimpArgs false
set_option linter.unusedVariables false
set_option maxRecDepth 100000
namespace Go.Proofs.YtnpdploihlgcgaaDoor
open Go Go.HL

end Go.Proofs.YtnpdploihlgcgaaDoor
