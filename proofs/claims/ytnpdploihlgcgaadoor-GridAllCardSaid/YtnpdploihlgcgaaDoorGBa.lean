/- The stack cells, told to any yield; cells gathered in a row. -/
import Derived.Test.YtnpdploihlgcgaaDoorGW
import Derived.Test.YtnpdploihlgcgaaDoorGLS
set_option linter.unusedSimpArgs false
set_option linter.unusedVariables false
set_option maxRecDepth 100000
namespace Go.Proofs.YtnpdploihlgcgaaDoor
open Go Go.HL

end Go.Proofs.YtnpdploihlgcgaaDoor
