/-
  NARROWER THAN 'FOR EVERY INPUT', by the rows' own cells (each row's printed sentence says how): DigJobs: laid · DigDone: laid · DigRefuses: laid · DigRows: laid · DigPlaces: laid · DigNear: laid · DigMore: laid.
  DERIVED. THE GIVEN ROWS OF THIS SEAT. 7 by the template 'for every input the law returns true; each argument reads behind the call as it read before'; 0 by the template 'total and deterministic' (their statements: YtangejiigopdaaaDoorTotals.lean).
  GIVEN WITH THE SEED: the statements are not yours to turn. If you find one false, say at which input.
  Laid BY PROGRAM, IN A SANDBOX (cutbox-rows.mjs): the forced cells as the released guide's own fill.sh prints them over the translation 5093faefea302929… (all of the seat's roots in one cut). By AI agents, Wed Nov 11 2026. No macro, syntax, notation, axiom, sorry.
-/
import Derived.Test.YtangejiigopdaaaDoorChecked
import GoSem.Claim
import GoSem.ClaimJoined
import GoSem.ClaimMapViews
import Derived.JoinedTies
import Derived.KernelRfl
namespace Go.Proofs.YtangejiigopdaaaDoor
/- THE CELL 'sum', in the pinned program and in every row, IS THE sha256 OF THE DUMP (.gsa) THAT YtangejiigopdaaaDoorProg.lean LOADS. Nothing in Lean hashes anything: it is a label: what it is worth is what the hold of that sum in a sandbox is worth. -/
noncomputable def Tryd.pinned : Pinned := { name := "ytangejiigopdaaadoor", sum := "5093faefea3029290fd4bffe3059ac9d0f52fba32bdc8bda1b94f692f9b43f77", checked := Tryd.checked }
namespace Rows
def none {H : Type} : Left H := { results := [], args := [] }

/- WHAT THE LISTED PACKAGE-LEVEL VARIABLES READ AS WHEN THE CALL BEGINS. Each datum BY PROGRAM (the guide's laid-datum.mjs) off the statement by which the dump's own 'gosem.cut.vars' lays the variable. In a bare row this is a premise. The card (YtangejiigopdaaaDoorCards.lean) ties it to the program's text. -/
def laid_skep_grid_steps {H : Type} : DataW H := .agg [.agg [.lit (.int .i64 0), .lit (.int .i64 (-1))], .agg [.lit (.int .i64 1), .lit (.int .i64 0)], .agg [.lit (.int .i64 0), .lit (.int .i64 1)], .agg [.lit (.int .i64 (-1)), .lit (.int .i64 0)]]

/-- 'skeplaw14.DigJobs': WHATEVER THE INPUT: true; the input reads as it did. -/
def digJobsSpec : ChangeSpec := { name := "digJobs", fn := fun _ => fun
  | [d1, d2, d3, d4, d5] => { results := [.lit (.bool true)], args := [d1, d2, d3, d4, d5] }
  | _ => none }
def digJobsRow : OpenClaim := { program := "ytangejiigopdaaadoor", sum := "5093faefea3029290fd4bffe3059ac9d0f52fba32bdc8bda1b94f692f9b43f77", func := "skep/skeplaw14.DigJobs", spec := "digJobs", unfollowed := true, recurses := true, named := ["skep/grid.steps"], plainKeys := false, apart := false, laid := [("skep/grid.steps", laid_skep_grid_steps)] }
def DigJobsSaid : Prop := digJobsRow.holds Tryd.pinned (OpenSpec.ofChange digJobsSpec)

/-- ITS FALSE NEIGHBOUR: 'it returns false'. Refute it at one input. -/
def digJobsWrong : ChangeSpec := { name := "digJobs", fn := fun _ => fun
  | [d1, d2, d3, d4, d5] => { results := [.lit (.bool false)], args := [d1, d2, d3, d4, d5] }
  | _ => none }
def DigJobsWrongFalsely : Prop := digJobsRow.holds Tryd.pinned (OpenSpec.ofChange digJobsWrong)

/-- 'skeplaw14.DigDone': WHATEVER THE INPUT: true; the input reads as it did. -/
def digDoneSpec : ChangeSpec := { name := "digDone", fn := fun _ => fun
  | [d1, d2, d3, d4] => { results := [.lit (.bool true)], args := [d1, d2, d3, d4] }
  | _ => none }
def digDoneRow : OpenClaim := { program := "ytangejiigopdaaadoor", sum := "5093faefea3029290fd4bffe3059ac9d0f52fba32bdc8bda1b94f692f9b43f77", func := "skep/skeplaw14.DigDone", spec := "digDone", unfollowed := true, recurses := true, named := ["skep/grid.steps"], plainKeys := false, apart := false, laid := [("skep/grid.steps", laid_skep_grid_steps)] }
def DigDoneSaid : Prop := digDoneRow.holds Tryd.pinned (OpenSpec.ofChange digDoneSpec)

/-- ITS FALSE NEIGHBOUR: 'it returns false'. Refute it at one input. -/
def digDoneWrong : ChangeSpec := { name := "digDone", fn := fun _ => fun
  | [d1, d2, d3, d4] => { results := [.lit (.bool false)], args := [d1, d2, d3, d4] }
  | _ => none }
def DigDoneWrongFalsely : Prop := digDoneRow.holds Tryd.pinned (OpenSpec.ofChange digDoneWrong)

/-- 'skeplaw14.DigRefuses': WHATEVER THE INPUT: true; the input reads as it did. -/
def digRefusesSpec : ChangeSpec := { name := "digRefuses", fn := fun _ => fun
  | [d1, d2, d3] => { results := [.lit (.bool true)], args := [d1, d2, d3] }
  | _ => none }
def digRefusesRow : OpenClaim := { program := "ytangejiigopdaaadoor", sum := "5093faefea3029290fd4bffe3059ac9d0f52fba32bdc8bda1b94f692f9b43f77", func := "skep/skeplaw14.DigRefuses", spec := "digRefuses", unfollowed := true, recurses := true, named := ["skep/grid.steps"], plainKeys := false, apart := false, laid := [("skep/grid.steps", laid_skep_grid_steps)] }
def DigRefusesSaid : Prop := digRefusesRow.holds Tryd.pinned (OpenSpec.ofChange digRefusesSpec)

/-- ITS FALSE NEIGHBOUR: 'it returns false'. Refute it at one input. -/
def digRefusesWrong : ChangeSpec := { name := "digRefuses", fn := fun _ => fun
  | [d1, d2, d3] => { results := [.lit (.bool false)], args := [d1, d2, d3] }
  | _ => none }
def DigRefusesWrongFalsely : Prop := digRefusesRow.holds Tryd.pinned (OpenSpec.ofChange digRefusesWrong)

/-- 'skeplaw14.DigRows': WHATEVER THE INPUT: true; the input reads as it did. -/
def digRowsSpec : ChangeSpec := { name := "digRows", fn := fun _ => fun
  | [d1, d2, d3] => { results := [.lit (.bool true)], args := [d1, d2, d3] }
  | _ => none }
def digRowsRow : OpenClaim := { program := "ytangejiigopdaaadoor", sum := "5093faefea3029290fd4bffe3059ac9d0f52fba32bdc8bda1b94f692f9b43f77", func := "skep/skeplaw14.DigRows", spec := "digRows", unfollowed := true, recurses := true, named := ["skep/grid.steps"], plainKeys := false, apart := false, laid := [("skep/grid.steps", laid_skep_grid_steps)] }
def DigRowsSaid : Prop := digRowsRow.holds Tryd.pinned (OpenSpec.ofChange digRowsSpec)

/-- ITS FALSE NEIGHBOUR: 'it returns false'. Refute it at one input. -/
def digRowsWrong : ChangeSpec := { name := "digRows", fn := fun _ => fun
  | [d1, d2, d3] => { results := [.lit (.bool false)], args := [d1, d2, d3] }
  | _ => none }
def DigRowsWrongFalsely : Prop := digRowsRow.holds Tryd.pinned (OpenSpec.ofChange digRowsWrong)

/-- 'skeplaw14.DigPlaces': WHATEVER THE INPUT: true; the input reads as it did. -/
def digPlacesSpec : ChangeSpec := { name := "digPlaces", fn := fun _ => fun
  | [d1, d2, d3, d4] => { results := [.lit (.bool true)], args := [d1, d2, d3, d4] }
  | _ => none }
def digPlacesRow : OpenClaim := { program := "ytangejiigopdaaadoor", sum := "5093faefea3029290fd4bffe3059ac9d0f52fba32bdc8bda1b94f692f9b43f77", func := "skep/skeplaw14.DigPlaces", spec := "digPlaces", unfollowed := true, recurses := true, named := ["skep/grid.steps"], plainKeys := false, apart := false, laid := [("skep/grid.steps", laid_skep_grid_steps)] }
def DigPlacesSaid : Prop := digPlacesRow.holds Tryd.pinned (OpenSpec.ofChange digPlacesSpec)

/-- ITS FALSE NEIGHBOUR: 'it returns false'. Refute it at one input. -/
def digPlacesWrong : ChangeSpec := { name := "digPlaces", fn := fun _ => fun
  | [d1, d2, d3, d4] => { results := [.lit (.bool false)], args := [d1, d2, d3, d4] }
  | _ => none }
def DigPlacesWrongFalsely : Prop := digPlacesRow.holds Tryd.pinned (OpenSpec.ofChange digPlacesWrong)

/-- 'skeplaw14.DigNear': WHATEVER THE INPUT: true; the input reads as it did. -/
def digNearSpec : ChangeSpec := { name := "digNear", fn := fun _ => fun
  | [d1, d2, d3] => { results := [.lit (.bool true)], args := [d1, d2, d3] }
  | _ => none }
def digNearRow : OpenClaim := { program := "ytangejiigopdaaadoor", sum := "5093faefea3029290fd4bffe3059ac9d0f52fba32bdc8bda1b94f692f9b43f77", func := "skep/skeplaw14.DigNear", spec := "digNear", unfollowed := true, recurses := true, named := ["skep/grid.steps"], plainKeys := false, apart := false, laid := [("skep/grid.steps", laid_skep_grid_steps)] }
def DigNearSaid : Prop := digNearRow.holds Tryd.pinned (OpenSpec.ofChange digNearSpec)

/-- ITS FALSE NEIGHBOUR: 'it returns false'. Refute it at one input. -/
def digNearWrong : ChangeSpec := { name := "digNear", fn := fun _ => fun
  | [d1, d2, d3] => { results := [.lit (.bool false)], args := [d1, d2, d3] }
  | _ => none }
def DigNearWrongFalsely : Prop := digNearRow.holds Tryd.pinned (OpenSpec.ofChange digNearWrong)

/-- 'skeplaw14.DigMore': WHATEVER THE INPUT: true; the input reads as it did. -/
def digMoreSpec : ChangeSpec := { name := "digMore", fn := fun _ => fun
  | [d1, d2, d3, d4] => { results := [.lit (.bool true)], args := [d1, d2, d3, d4] }
  | _ => none }
def digMoreRow : OpenClaim := { program := "ytangejiigopdaaadoor", sum := "5093faefea3029290fd4bffe3059ac9d0f52fba32bdc8bda1b94f692f9b43f77", func := "skep/skeplaw14.DigMore", spec := "digMore", unfollowed := true, recurses := true, named := ["skep/grid.steps"], plainKeys := false, apart := false, laid := [("skep/grid.steps", laid_skep_grid_steps)] }
def DigMoreSaid : Prop := digMoreRow.holds Tryd.pinned (OpenSpec.ofChange digMoreSpec)

/-- ITS FALSE NEIGHBOUR: 'it returns false'. Refute it at one input. -/
def digMoreWrong : ChangeSpec := { name := "digMore", fn := fun _ => fun
  | [d1, d2, d3, d4] => { results := [.lit (.bool false)], args := [d1, d2, d3, d4] }
  | _ => none }
def DigMoreWrongFalsely : Prop := digMoreRow.holds Tryd.pinned (OpenSpec.ofChange digMoreWrong)

/- THE SECOND FORM. 'bulk': how many values and letters a reading holds, each counted each time it is reached (what is shared counts as often as it is met; a slice's spare places count too). A statement '..UptoSaid' is the law's where the arguments, and the package variables that the reading takes, are together of bulk at most 1048576: NARROWER than '..Said'. Prove '..Said' where nothing that the law and all that it calls make is longer than what came in: it says more and counts as full. Else prove '..UptoSaid'. A law counts once. -/
mutual
def uptoBulk {H : Type} : DataW H → Nat
  | .lit (.string bytes) => bytes.length + 1
  | .lit _ => 1
  | .nil => 1
  | .ptr d => uptoBulk d + 1
  | .slice elems spare => uptoBulkAll elems + uptoBulkAll spare + 1
  | .agg parts => uptoBulkAll parts + 1
  | .iface _ d => uptoBulk d + 1
  | .map entries => uptoBulkEntries entries + 1
  | .held _ => 1
def uptoBulkAll {H : Type} : List (DataW H) → Nat
  | [] => 0
  | d :: r => uptoBulk d + uptoBulkAll r
def uptoBulkEntries {H : Type} : List (Lit × DataW H) → Nat
  | [] => 0
  | x :: r => uptoBulkEntry x + uptoBulkEntries r
def uptoBulkEntry {H : Type} : Lit × DataW H → Nat
  | (.string bytes, d) => bytes.length + uptoBulk d + 1
  | (_, d) => uptoBulk d + 1
 end
def uptoSmall : (H : Type) → List (DataW H) → Bool := fun _ ds => decide (uptoBulkAll ds ≤ 1048576)
def OpenSpec.upto (s : _root_.Go.ChangeSpec) : _root_.Go.OpenSpec := { _root_.Go.OpenSpec.ofChange s with cond := some uptoSmall }

/-- 'skeplaw14.DigJobs', WHERE WHAT IT READS IS OF BULK AT MOST 1048576: true; the input reads as it did. -/
def digJobsUptoRow : OpenClaim := { program := "ytangejiigopdaaadoor", sum := "5093faefea3029290fd4bffe3059ac9d0f52fba32bdc8bda1b94f692f9b43f77", func := "skep/skeplaw14.DigJobs", spec := "digJobs", unfollowed := true, recurses := true, named := ["skep/grid.steps"], plainKeys := false, apart := false, laid := [("skep/grid.steps", laid_skep_grid_steps)], narrowed := true }
def DigJobsUptoSaid : Prop := digJobsUptoRow.holds Tryd.pinned (OpenSpec.upto digJobsSpec)

/-- 'skeplaw14.DigDone', WHERE WHAT IT READS IS OF BULK AT MOST 1048576: true; the input reads as it did. -/
def digDoneUptoRow : OpenClaim := { program := "ytangejiigopdaaadoor", sum := "5093faefea3029290fd4bffe3059ac9d0f52fba32bdc8bda1b94f692f9b43f77", func := "skep/skeplaw14.DigDone", spec := "digDone", unfollowed := true, recurses := true, named := ["skep/grid.steps"], plainKeys := false, apart := false, laid := [("skep/grid.steps", laid_skep_grid_steps)], narrowed := true }
def DigDoneUptoSaid : Prop := digDoneUptoRow.holds Tryd.pinned (OpenSpec.upto digDoneSpec)

/-- 'skeplaw14.DigRefuses', WHERE WHAT IT READS IS OF BULK AT MOST 1048576: true; the input reads as it did. -/
def digRefusesUptoRow : OpenClaim := { program := "ytangejiigopdaaadoor", sum := "5093faefea3029290fd4bffe3059ac9d0f52fba32bdc8bda1b94f692f9b43f77", func := "skep/skeplaw14.DigRefuses", spec := "digRefuses", unfollowed := true, recurses := true, named := ["skep/grid.steps"], plainKeys := false, apart := false, laid := [("skep/grid.steps", laid_skep_grid_steps)], narrowed := true }
def DigRefusesUptoSaid : Prop := digRefusesUptoRow.holds Tryd.pinned (OpenSpec.upto digRefusesSpec)

/-- 'skeplaw14.DigRows', WHERE WHAT IT READS IS OF BULK AT MOST 1048576: true; the input reads as it did. -/
def digRowsUptoRow : OpenClaim := { program := "ytangejiigopdaaadoor", sum := "5093faefea3029290fd4bffe3059ac9d0f52fba32bdc8bda1b94f692f9b43f77", func := "skep/skeplaw14.DigRows", spec := "digRows", unfollowed := true, recurses := true, named := ["skep/grid.steps"], plainKeys := false, apart := false, laid := [("skep/grid.steps", laid_skep_grid_steps)], narrowed := true }
def DigRowsUptoSaid : Prop := digRowsUptoRow.holds Tryd.pinned (OpenSpec.upto digRowsSpec)

/-- 'skeplaw14.DigPlaces', WHERE WHAT IT READS IS OF BULK AT MOST 1048576: true; the input reads as it did. -/
def digPlacesUptoRow : OpenClaim := { program := "ytangejiigopdaaadoor", sum := "5093faefea3029290fd4bffe3059ac9d0f52fba32bdc8bda1b94f692f9b43f77", func := "skep/skeplaw14.DigPlaces", spec := "digPlaces", unfollowed := true, recurses := true, named := ["skep/grid.steps"], plainKeys := false, apart := false, laid := [("skep/grid.steps", laid_skep_grid_steps)], narrowed := true }
def DigPlacesUptoSaid : Prop := digPlacesUptoRow.holds Tryd.pinned (OpenSpec.upto digPlacesSpec)

/-- 'skeplaw14.DigNear', WHERE WHAT IT READS IS OF BULK AT MOST 1048576: true; the input reads as it did. -/
def digNearUptoRow : OpenClaim := { program := "ytangejiigopdaaadoor", sum := "5093faefea3029290fd4bffe3059ac9d0f52fba32bdc8bda1b94f692f9b43f77", func := "skep/skeplaw14.DigNear", spec := "digNear", unfollowed := true, recurses := true, named := ["skep/grid.steps"], plainKeys := false, apart := false, laid := [("skep/grid.steps", laid_skep_grid_steps)], narrowed := true }
def DigNearUptoSaid : Prop := digNearUptoRow.holds Tryd.pinned (OpenSpec.upto digNearSpec)

/-- 'skeplaw14.DigMore', WHERE WHAT IT READS IS OF BULK AT MOST 1048576: true; the input reads as it did. -/
def digMoreUptoRow : OpenClaim := { program := "ytangejiigopdaaadoor", sum := "5093faefea3029290fd4bffe3059ac9d0f52fba32bdc8bda1b94f692f9b43f77", func := "skep/skeplaw14.DigMore", spec := "digMore", unfollowed := true, recurses := true, named := ["skep/grid.steps"], plainKeys := false, apart := false, laid := [("skep/grid.steps", laid_skep_grid_steps)], narrowed := true }
def DigMoreUptoSaid : Prop := digMoreUptoRow.holds Tryd.pinned (OpenSpec.upto digMoreSpec)

end Rows
end Go.Proofs.YtangejiigopdaaaDoor
