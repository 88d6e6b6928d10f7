/- A text of the proofs. -/
import Derived.Test.YtnpdploihlgcgaaDoorGI
set_option linter.unusedVariables false
set_option maxRecDepth 100000
namespace Go.Proofs.YtnpdploihlgcgaaDoor
open Go Go.HL
end Go.Proofs.YtnpdploihlgcgaaDoor
