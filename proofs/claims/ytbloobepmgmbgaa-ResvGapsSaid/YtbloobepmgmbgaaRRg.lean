/- Both tables tell alike. -/
import Derived.Test.YtbloobepmgmbgaaRRf
set_option linter.unusedSimpArgs false
set_option linter.unusedVariables false
set_option maxRecDepth 100000
namespace Go.Proofs.Ytbloobepmgmbgaa
open Go Go.HL Go.Proofs.Resv

theorem gapsAt_len {T : Tb} {c r : Int} {b : Nat} (f : Few T b) : (gapsAt T c r).length ≤ b + 1 := by
  unfold gapsAt
  split
  · have h1 := gaps_len (r := r) (L := rowT T c) (a := 0)
    have h2 := rowT_few f c
    show (gapsFrom r (rowT T c) 0).length ≤ b + 1
    omega
  · exact Nat.zero_le _

end Go.Proofs.Ytbloobepmgmbgaa
