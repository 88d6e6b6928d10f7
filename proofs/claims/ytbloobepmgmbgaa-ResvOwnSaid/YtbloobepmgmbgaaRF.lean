/- The table: a slot made longer; ticks given back. -/
import Derived.Test.YtbloobepmgmbgaaRE
set_option linter.unusedSimpArgs false
set_option linter.unusedVariables false
set_option maxRecDepth 100000
namespace Go.Proofs.Ytbloobepmgmbgaa
open Go Go.HL Go.Proofs.Resv

theorem un58 : Try.prog.underlying 58 = some (.array 2 3) := by kernel_rfl
end Go.Proofs.Ytbloobepmgmbgaa
