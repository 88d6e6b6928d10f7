/-
  No cell of these rows narrows 'for every input' (looked for: loops, veiled, ifaces, maps, wideKeys, modest, calm, conditions, laid).
  DERIVED. THE GIVEN ROWS OF THIS SEAT. 9 by the template 'for every input the law returns true; each argument reads behind the call as it read before'; 0 by the template 'total and deterministic' (their statements: YtbloobepmgmbgaaTotals.lean).
  GIVEN WITH THE SEED: the statements are not yours to turn. If you find one false, say at which input.
  Laid BY PROGRAM, IN A SANDBOX (cutbox-rows.mjs): the forced cells as the released guide's own fill.sh prints them over the translation 6c50a0106e333e85… (all of the seat's roots in one cut). By AI agents, Wed Nov 11 2026. No macro, syntax, notation, axiom, sorry.
-/
import Derived.Test.YtbloobepmgmbgaaChecked
import GoSem.Claim
import GoSem.ClaimJoined
import GoSem.ClaimMapViews
import Derived.JoinedTies
import Derived.KernelRfl
namespace Go.Proofs.Ytbloobepmgmbgaa
/- THE CELL 'sum', in the pinned program and in every row, IS THE sha256 OF THE DUMP (.gsa) THAT YtbloobepmgmbgaaProg.lean LOADS. Nothing in Lean hashes anything: it is a label: what it is worth is what the hold of that sum in a sandbox is worth. -/
noncomputable def Try.pinned : Pinned := { name := "ytbloobepmgmbgaa", sum := "6c50a0106e333e851bf7d18773d81c431c571f401f48a3e76351ccc307a2635f", checked := Try.checked }
namespace Rows
def none {H : Type} : Left H := { results := [], args := [] }

/-- 'skeplaw11.ResvOwn': WHATEVER THE INPUT: true; the input reads as it did. -/
def resvOwnSpec : ChangeSpec := { name := "resvOwn", fn := fun _ => fun
  | [d1, d2] => { results := [.lit (.bool true)], args := [d1, d2] }
  | _ => none }
def resvOwnRow : OpenClaim := { program := "ytbloobepmgmbgaa", sum := "6c50a0106e333e851bf7d18773d81c431c571f401f48a3e76351ccc307a2635f", func := "skep/skeplaw11.ResvOwn", spec := "resvOwn", inPlace := ["slices.overlaps[skep/api.Slot]"], unfollowed := true, recurses := true, apart := false }
def ResvOwnSaid : Prop := resvOwnRow.holds Try.pinned (OpenSpec.ofChange resvOwnSpec)

/-- ITS FALSE NEIGHBOUR: 'it returns false'. Refute it at one input. -/
def resvOwnWrong : ChangeSpec := { name := "resvOwn", fn := fun _ => fun
  | [d1, d2] => { results := [.lit (.bool false)], args := [d1, d2] }
  | _ => none }
def ResvOwnWrongFalsely : Prop := resvOwnRow.holds Try.pinned (OpenSpec.ofChange resvOwnWrong)

/-- 'skeplaw11.ResvExtends': WHATEVER THE INPUT: true; the input reads as it did. -/
def resvExtendsSpec : ChangeSpec := { name := "resvExtends", fn := fun _ => fun
  | [d1, d2, d3, d4] => { results := [.lit (.bool true)], args := [d1, d2, d3, d4] }
  | _ => none }
def resvExtendsRow : OpenClaim := { program := "ytbloobepmgmbgaa", sum := "6c50a0106e333e851bf7d18773d81c431c571f401f48a3e76351ccc307a2635f", func := "skep/skeplaw11.ResvExtends", spec := "resvExtends", inPlace := ["slices.overlaps[skep/api.Slot]"], unfollowed := true, recurses := true, apart := false }
def ResvExtendsSaid : Prop := resvExtendsRow.holds Try.pinned (OpenSpec.ofChange resvExtendsSpec)

/-- ITS FALSE NEIGHBOUR: 'it returns false'. Refute it at one input. -/
def resvExtendsWrong : ChangeSpec := { name := "resvExtends", fn := fun _ => fun
  | [d1, d2, d3, d4] => { results := [.lit (.bool false)], args := [d1, d2, d3, d4] }
  | _ => none }
def ResvExtendsWrongFalsely : Prop := resvExtendsRow.holds Try.pinned (OpenSpec.ofChange resvExtendsWrong)

/-- 'skeplaw11.ResvPlays': WHATEVER THE INPUT: true; the input reads as it did. -/
def resvPlaysSpec : ChangeSpec := { name := "resvPlays", fn := fun _ => fun
  | [d1, d2] => { results := [.lit (.bool true)], args := [d1, d2] }
  | _ => none }
def resvPlaysRow : OpenClaim := { program := "ytbloobepmgmbgaa", sum := "6c50a0106e333e851bf7d18773d81c431c571f401f48a3e76351ccc307a2635f", func := "skep/skeplaw11.ResvPlays", spec := "resvPlays", inPlace := ["slices.overlaps[skep/api.Slot]"], unfollowed := true, recurses := true, apart := false }
def ResvPlaysSaid : Prop := resvPlaysRow.holds Try.pinned (OpenSpec.ofChange resvPlaysSpec)

/-- ITS FALSE NEIGHBOUR: 'it returns false'. Refute it at one input. -/
def resvPlaysWrong : ChangeSpec := { name := "resvPlays", fn := fun _ => fun
  | [d1, d2] => { results := [.lit (.bool false)], args := [d1, d2] }
  | _ => none }
def ResvPlaysWrongFalsely : Prop := resvPlaysRow.holds Try.pinned (OpenSpec.ofChange resvPlaysWrong)

/-- 'skeplaw11.ResvApart': WHATEVER THE INPUT: true; the input reads as it did. -/
def resvApartSpec : ChangeSpec := { name := "resvApart", fn := fun _ => fun
  | [d] => { results := [.lit (.bool true)], args := [d] }
  | _ => none }
def resvApartRow : OpenClaim := { program := "ytbloobepmgmbgaa", sum := "6c50a0106e333e851bf7d18773d81c431c571f401f48a3e76351ccc307a2635f", func := "skep/skeplaw11.ResvApart", spec := "resvApart", inPlace := ["slices.overlaps[skep/api.Slot]"], unfollowed := true, recurses := true, apart := false }
def ResvApartSaid : Prop := resvApartRow.holds Try.pinned (OpenSpec.ofChange resvApartSpec)

/-- ITS FALSE NEIGHBOUR: 'it returns false'. Refute it at one input. -/
def resvApartWrong : ChangeSpec := { name := "resvApart", fn := fun _ => fun
  | [d] => { results := [.lit (.bool false)], args := [d] }
  | _ => none }
def ResvApartWrongFalsely : Prop := resvApartRow.holds Try.pinned (OpenSpec.ofChange resvApartWrong)

/-- 'skeplaw11.ResvWhole': WHATEVER THE INPUT: true; the input reads as it did. -/
def resvWholeSpec : ChangeSpec := { name := "resvWhole", fn := fun _ => fun
  | [d1, d2, d3] => { results := [.lit (.bool true)], args := [d1, d2, d3] }
  | _ => none }
def resvWholeRow : OpenClaim := { program := "ytbloobepmgmbgaa", sum := "6c50a0106e333e851bf7d18773d81c431c571f401f48a3e76351ccc307a2635f", func := "skep/skeplaw11.ResvWhole", spec := "resvWhole", inPlace := ["slices.overlaps[skep/api.Slot]"], unfollowed := true, recurses := true, apart := false }
def ResvWholeSaid : Prop := resvWholeRow.holds Try.pinned (OpenSpec.ofChange resvWholeSpec)

/-- ITS FALSE NEIGHBOUR: 'it returns false'. Refute it at one input. -/
def resvWholeWrong : ChangeSpec := { name := "resvWhole", fn := fun _ => fun
  | [d1, d2, d3] => { results := [.lit (.bool false)], args := [d1, d2, d3] }
  | _ => none }
def ResvWholeWrongFalsely : Prop := resvWholeRow.holds Try.pinned (OpenSpec.ofChange resvWholeWrong)

/-- 'skeplaw11.ResvGaps': WHATEVER THE INPUT: true; the input reads as it did. -/
def resvGapsSpec : ChangeSpec := { name := "resvGaps", fn := fun _ => fun
  | [d1, d2, d3] => { results := [.lit (.bool true)], args := [d1, d2, d3] }
  | _ => none }
def resvGapsRow : OpenClaim := { program := "ytbloobepmgmbgaa", sum := "6c50a0106e333e851bf7d18773d81c431c571f401f48a3e76351ccc307a2635f", func := "skep/skeplaw11.ResvGaps", spec := "resvGaps", inPlace := ["slices.overlaps[skep/api.Slot]"], unfollowed := true, recurses := true, apart := false }
def ResvGapsSaid : Prop := resvGapsRow.holds Try.pinned (OpenSpec.ofChange resvGapsSpec)

/-- ITS FALSE NEIGHBOUR: 'it returns false'. Refute it at one input. -/
def resvGapsWrong : ChangeSpec := { name := "resvGaps", fn := fun _ => fun
  | [d1, d2, d3] => { results := [.lit (.bool false)], args := [d1, d2, d3] }
  | _ => none }
def ResvGapsWrongFalsely : Prop := resvGapsRow.holds Try.pinned (OpenSpec.ofChange resvGapsWrong)

/-- 'skeplaw11.ResvGives': WHATEVER THE INPUT: true; the input reads as it did. -/
def resvGivesSpec : ChangeSpec := { name := "resvGives", fn := fun _ => fun
  | [d1, d2, d3, d4] => { results := [.lit (.bool true)], args := [d1, d2, d3, d4] }
  | _ => none }
def resvGivesRow : OpenClaim := { program := "ytbloobepmgmbgaa", sum := "6c50a0106e333e851bf7d18773d81c431c571f401f48a3e76351ccc307a2635f", func := "skep/skeplaw11.ResvGives", spec := "resvGives", inPlace := ["slices.overlaps[skep/api.Slot]"], unfollowed := true, recurses := true, apart := false }
def ResvGivesSaid : Prop := resvGivesRow.holds Try.pinned (OpenSpec.ofChange resvGivesSpec)

/-- ITS FALSE NEIGHBOUR: 'it returns false'. Refute it at one input. -/
def resvGivesWrong : ChangeSpec := { name := "resvGives", fn := fun _ => fun
  | [d1, d2, d3, d4] => { results := [.lit (.bool false)], args := [d1, d2, d3, d4] }
  | _ => none }
def ResvGivesWrongFalsely : Prop := resvGivesRow.holds Try.pinned (OpenSpec.ofChange resvGivesWrong)

/-- 'skeplaw11.ResvBack': WHATEVER THE INPUT: true; the input reads as it did. -/
def resvBackSpec : ChangeSpec := { name := "resvBack", fn := fun _ => fun
  | [d1, d2] => { results := [.lit (.bool true)], args := [d1, d2] }
  | _ => none }
def resvBackRow : OpenClaim := { program := "ytbloobepmgmbgaa", sum := "6c50a0106e333e851bf7d18773d81c431c571f401f48a3e76351ccc307a2635f", func := "skep/skeplaw11.ResvBack", spec := "resvBack", inPlace := ["slices.overlaps[skep/api.Slot]"], unfollowed := true, recurses := true, apart := false }
def ResvBackSaid : Prop := resvBackRow.holds Try.pinned (OpenSpec.ofChange resvBackSpec)

/-- ITS FALSE NEIGHBOUR: 'it returns false'. Refute it at one input. -/
def resvBackWrong : ChangeSpec := { name := "resvBack", fn := fun _ => fun
  | [d1, d2] => { results := [.lit (.bool false)], args := [d1, d2] }
  | _ => none }
def ResvBackWrongFalsely : Prop := resvBackRow.holds Try.pinned (OpenSpec.ofChange resvBackWrong)

/-- 'skeplaw11.ResvParts': WHATEVER THE INPUT: true; the input reads as it did. -/
def resvPartsSpec : ChangeSpec := { name := "resvParts", fn := fun _ => fun
  | [d1, d2, d3] => { results := [.lit (.bool true)], args := [d1, d2, d3] }
  | _ => none }
def resvPartsRow : OpenClaim := { program := "ytbloobepmgmbgaa", sum := "6c50a0106e333e851bf7d18773d81c431c571f401f48a3e76351ccc307a2635f", func := "skep/skeplaw11.ResvParts", spec := "resvParts", inPlace := ["slices.overlaps[skep/api.Slot]"], unfollowed := true, recurses := true, apart := false }
def ResvPartsSaid : Prop := resvPartsRow.holds Try.pinned (OpenSpec.ofChange resvPartsSpec)

/-- ITS FALSE NEIGHBOUR: 'it returns false'. Refute it at one input. -/
def resvPartsWrong : ChangeSpec := { name := "resvParts", fn := fun _ => fun
  | [d1, d2, d3] => { results := [.lit (.bool false)], args := [d1, d2, d3] }
  | _ => none }
def ResvPartsWrongFalsely : Prop := resvPartsRow.holds Try.pinned (OpenSpec.ofChange resvPartsWrong)

/- THE SECOND FORM. 'bulk': how many values and letters a reading holds, each counted each time it is reached (what is shared counts as often as it is met; a slice's spare places count too). A statement '..UptoSaid' is the law's where the arguments, and the package variables that the reading takes, are together of bulk at most 1048576: NARROWER than '..Said'. Prove '..Said' where nothing that the law and all that it calls make is longer than what came in: it says more and counts as full. Else prove '..UptoSaid'. A law counts once. -/
mutual
def uptoBulk {H : Type} : DataW H → Nat
  | .lit (.string bytes) => bytes.length + 1
  | .lit _ => 1
  | .nil => 1
  | .ptr d => uptoBulk d + 1
  | .slice elems spare => uptoBulkAll elems + uptoBulkAll spare + 1
  | .agg parts => uptoBulkAll parts + 1
  | .iface _ d => uptoBulk d + 1
  | .map entries => uptoBulkEntries entries + 1
  | .held _ => 1
def uptoBulkAll {H : Type} : List (DataW H) → Nat
  | [] => 0
  | d :: r => uptoBulk d + uptoBulkAll r
def uptoBulkEntries {H : Type} : List (Lit × DataW H) → Nat
  | [] => 0
  | x :: r => uptoBulkEntry x + uptoBulkEntries r
def uptoBulkEntry {H : Type} : Lit × DataW H → Nat
  | (.string bytes, d) => bytes.length + uptoBulk d + 1
  | (_, d) => uptoBulk d + 1
 end
def uptoSmall : (H : Type) → List (DataW H) → Bool := fun _ ds => decide (uptoBulkAll ds ≤ 1048576)
def OpenSpec.upto (s : _root_.Go.ChangeSpec) : _root_.Go.OpenSpec := { _root_.Go.OpenSpec.ofChange s with cond := some uptoSmall }

/-- 'skeplaw11.ResvOwn', WHERE WHAT IT READS IS OF BULK AT MOST 1048576: true; the input reads as it did. -/
def resvOwnUptoRow : OpenClaim := { program := "ytbloobepmgmbgaa", sum := "6c50a0106e333e851bf7d18773d81c431c571f401f48a3e76351ccc307a2635f", func := "skep/skeplaw11.ResvOwn", spec := "resvOwn", inPlace := ["slices.overlaps[skep/api.Slot]"], unfollowed := true, recurses := true, apart := false, narrowed := true }
def ResvOwnUptoSaid : Prop := resvOwnUptoRow.holds Try.pinned (OpenSpec.upto resvOwnSpec)

/-- 'skeplaw11.ResvExtends', WHERE WHAT IT READS IS OF BULK AT MOST 1048576: true; the input reads as it did. -/
def resvExtendsUptoRow : OpenClaim := { program := "ytbloobepmgmbgaa", sum := "6c50a0106e333e851bf7d18773d81c431c571f401f48a3e76351ccc307a2635f", func := "skep/skeplaw11.ResvExtends", spec := "resvExtends", inPlace := ["slices.overlaps[skep/api.Slot]"], unfollowed := true, recurses := true, apart := false, narrowed := true }
def ResvExtendsUptoSaid : Prop := resvExtendsUptoRow.holds Try.pinned (OpenSpec.upto resvExtendsSpec)

/-- 'skeplaw11.ResvPlays', WHERE WHAT IT READS IS OF BULK AT MOST 1048576: true; the input reads as it did. -/
def resvPlaysUptoRow : OpenClaim := { program := "ytbloobepmgmbgaa", sum := "6c50a0106e333e851bf7d18773d81c431c571f401f48a3e76351ccc307a2635f", func := "skep/skeplaw11.ResvPlays", spec := "resvPlays", inPlace := ["slices.overlaps[skep/api.Slot]"], unfollowed := true, recurses := true, apart := false, narrowed := true }
def ResvPlaysUptoSaid : Prop := resvPlaysUptoRow.holds Try.pinned (OpenSpec.upto resvPlaysSpec)

/-- 'skeplaw11.ResvApart', WHERE WHAT IT READS IS OF BULK AT MOST 1048576: true; the input reads as it did. -/
def resvApartUptoRow : OpenClaim := { program := "ytbloobepmgmbgaa", sum := "6c50a0106e333e851bf7d18773d81c431c571f401f48a3e76351ccc307a2635f", func := "skep/skeplaw11.ResvApart", spec := "resvApart", inPlace := ["slices.overlaps[skep/api.Slot]"], unfollowed := true, recurses := true, apart := false, narrowed := true }
def ResvApartUptoSaid : Prop := resvApartUptoRow.holds Try.pinned (OpenSpec.upto resvApartSpec)

/-- 'skeplaw11.ResvWhole', WHERE WHAT IT READS IS OF BULK AT MOST 1048576: true; the input reads as it did. -/
def resvWholeUptoRow : OpenClaim := { program := "ytbloobepmgmbgaa", sum := "6c50a0106e333e851bf7d18773d81c431c571f401f48a3e76351ccc307a2635f", func := "skep/skeplaw11.ResvWhole", spec := "resvWhole", inPlace := ["slices.overlaps[skep/api.Slot]"], unfollowed := true, recurses := true, apart := false, narrowed := true }
def ResvWholeUptoSaid : Prop := resvWholeUptoRow.holds Try.pinned (OpenSpec.upto resvWholeSpec)

/-- 'skeplaw11.ResvGaps', WHERE WHAT IT READS IS OF BULK AT MOST 1048576: true; the input reads as it did. -/
def resvGapsUptoRow : OpenClaim := { program := "ytbloobepmgmbgaa", sum := "6c50a0106e333e851bf7d18773d81c431c571f401f48a3e76351ccc307a2635f", func := "skep/skeplaw11.ResvGaps", spec := "resvGaps", inPlace := ["slices.overlaps[skep/api.Slot]"], unfollowed := true, recurses := true, apart := false, narrowed := true }
def ResvGapsUptoSaid : Prop := resvGapsUptoRow.holds Try.pinned (OpenSpec.upto resvGapsSpec)

/-- 'skeplaw11.ResvGives', WHERE WHAT IT READS IS OF BULK AT MOST 1048576: true; the input reads as it did. -/
def resvGivesUptoRow : OpenClaim := { program := "ytbloobepmgmbgaa", sum := "6c50a0106e333e851bf7d18773d81c431c571f401f48a3e76351ccc307a2635f", func := "skep/skeplaw11.ResvGives", spec := "resvGives", inPlace := ["slices.overlaps[skep/api.Slot]"], unfollowed := true, recurses := true, apart := false, narrowed := true }
def ResvGivesUptoSaid : Prop := resvGivesUptoRow.holds Try.pinned (OpenSpec.upto resvGivesSpec)

/-- 'skeplaw11.ResvBack', WHERE WHAT IT READS IS OF BULK AT MOST 1048576: true; the input reads as it did. -/
def resvBackUptoRow : OpenClaim := { program := "ytbloobepmgmbgaa", sum := "6c50a0106e333e851bf7d18773d81c431c571f401f48a3e76351ccc307a2635f", func := "skep/skeplaw11.ResvBack", spec := "resvBack", inPlace := ["slices.overlaps[skep/api.Slot]"], unfollowed := true, recurses := true, apart := false, narrowed := true }
def ResvBackUptoSaid : Prop := resvBackUptoRow.holds Try.pinned (OpenSpec.upto resvBackSpec)

/-- 'skeplaw11.ResvParts', WHERE WHAT IT READS IS OF BULK AT MOST 1048576: true; the input reads as it did. -/
def resvPartsUptoRow : OpenClaim := { program := "ytbloobepmgmbgaa", sum := "6c50a0106e333e851bf7d18773d81c431c571f401f48a3e76351ccc307a2635f", func := "skep/skeplaw11.ResvParts", spec := "resvParts", inPlace := ["slices.overlaps[skep/api.Slot]"], unfollowed := true, recurses := true, apart := false, narrowed := true }
def ResvPartsUptoSaid : Prop := resvPartsUptoRow.holds Try.pinned (OpenSpec.upto resvPartsSpec)

end Rows
end Go.Proofs.Ytbloobepmgmbgaa
