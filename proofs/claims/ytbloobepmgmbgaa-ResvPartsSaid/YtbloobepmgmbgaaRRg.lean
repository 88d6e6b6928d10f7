/- Both tables tell alike. -/
import Derived.Test.YtbloobepmgmbgaaRRf
set_option linter.unusedSimpArgs false
set_option linter.unusedVariables false
set_option maxRecDepth 100000
namespace Go.Proofs.Ytbloobepmgmbgaa
open Go Go.HL Go.Proofs.Resv

end Go.Proofs.Ytbloobepmgmbgaa
