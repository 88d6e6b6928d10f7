/-
  NARROWER THAN 'FOR EVERY INPUT', by the rows' own cells (each row's printed sentence says how): GridPoses: laid · GridAll: laid · GridMay: laid · GridEdges: laid · GridCells: laid · GridAway: laid · GridMoves: laid · GridLegal: laid · GridBack: laid · GridOwn: laid · GridSteps: laid.
  DERIVED. THE GIVEN ROWS OF THIS SEAT. 11 by the template 'for every input the law returns true; each argument reads behind the call as it read before'; 0 by the template 'total and deterministic' (their statements: YtnpdploihlgcgaaDoorTotals.lean).
  GIVEN WITH THE SEED: the statements are not yours to turn. If you find one false, say at which input.
  Laid BY PROGRAM, IN A SANDBOX (cutbox-rows.mjs): the forced cells as the released guide's own fill.sh prints them over the translation 20f9b6f50c1a7da2… (all of the seat's roots in one cut). By AI agents, Wed Nov 11 2026. No macro, syntax, notation, axiom, sorry.
-/
import Derived.Test.YtnpdploihlgcgaaDoorChecked
import GoSem.Claim
import GoSem.ClaimJoined
import GoSem.ClaimMapViews
import Derived.JoinedTies
import Derived.KernelRfl
namespace Go.Proofs.YtnpdploihlgcgaaDoor
/- THE CELL 'sum', in the pinned program and in every row, IS THE sha256 OF THE DUMP (.gsa) THAT YtnpdploihlgcgaaDoorProg.lean LOADS. Nothing in Lean hashes anything: it is a label: what it is worth is what the hold of that sum in a sandbox is worth. -/
noncomputable def Tryd.pinned : Pinned := { name := "ytnpdploihlgcgaadoor", sum := "20f9b6f50c1a7da24399807a7af7c9e47fb37171f40b3de0fb06a58eb0faaad2", checked := Tryd.checked }
namespace Rows
def none {H : Type} : Left H := { results := [], args := [] }

/- WHAT THE LISTED PACKAGE-LEVEL VARIABLES READ AS WHEN THE CALL BEGINS. Each datum BY PROGRAM (the guide's laid-datum.mjs) off the statement by which the dump's own 'gosem.cut.vars' lays the variable. In a bare row this is a premise. The card (YtnpdploihlgcgaaDoorCards.lean) ties it to the program's text. -/
def laid_skep_grid_steps {H : Type} : DataW H := .agg [.agg [.lit (.int .i64 0), .lit (.int .i64 (-1))], .agg [.lit (.int .i64 1), .lit (.int .i64 0)], .agg [.lit (.int .i64 0), .lit (.int .i64 1)], .agg [.lit (.int .i64 (-1)), .lit (.int .i64 0)]]

/-- 'skeplaw07.GridPoses': WHATEVER THE INPUT: true; the input reads as it did. -/
def gridPosesSpec : ChangeSpec := { name := "gridPoses", fn := fun _ => fun
  | [d1, d2, d3, d4] => { results := [.lit (.bool true)], args := [d1, d2, d3, d4] }
  | _ => none }
def gridPosesRow : OpenClaim := { program := "ytnpdploihlgcgaadoor", sum := "20f9b6f50c1a7da24399807a7af7c9e47fb37171f40b3de0fb06a58eb0faaad2", func := "skep/skeplaw07.GridPoses", spec := "gridPoses", unfollowed := true, recurses := true, named := ["skep/grid.steps"], apart := false, laid := [("skep/grid.steps", laid_skep_grid_steps)] }
def GridPosesSaid : Prop := gridPosesRow.holds Tryd.pinned (OpenSpec.ofChange gridPosesSpec)

/-- ITS FALSE NEIGHBOUR: 'it returns false'. Refute it at one input. -/
def gridPosesWrong : ChangeSpec := { name := "gridPoses", fn := fun _ => fun
  | [d1, d2, d3, d4] => { results := [.lit (.bool false)], args := [d1, d2, d3, d4] }
  | _ => none }
def GridPosesWrongFalsely : Prop := gridPosesRow.holds Tryd.pinned (OpenSpec.ofChange gridPosesWrong)

/-- 'skeplaw07.GridAll': WHATEVER THE INPUT: true; the input reads as it did. -/
def gridAllSpec : ChangeSpec := { name := "gridAll", fn := fun _ => fun
  | [d1, d2] => { results := [.lit (.bool true)], args := [d1, d2] }
  | _ => none }
def gridAllRow : OpenClaim := { program := "ytnpdploihlgcgaadoor", sum := "20f9b6f50c1a7da24399807a7af7c9e47fb37171f40b3de0fb06a58eb0faaad2", func := "skep/skeplaw07.GridAll", spec := "gridAll", unfollowed := true, recurses := true, named := ["skep/grid.steps"], apart := false, laid := [("skep/grid.steps", laid_skep_grid_steps)] }
def GridAllSaid : Prop := gridAllRow.holds Tryd.pinned (OpenSpec.ofChange gridAllSpec)

/-- ITS FALSE NEIGHBOUR: 'it returns false'. Refute it at one input. -/
def gridAllWrong : ChangeSpec := { name := "gridAll", fn := fun _ => fun
  | [d1, d2] => { results := [.lit (.bool false)], args := [d1, d2] }
  | _ => none }
def GridAllWrongFalsely : Prop := gridAllRow.holds Tryd.pinned (OpenSpec.ofChange gridAllWrong)

/-- 'skeplaw07.GridMay': WHATEVER THE INPUT: true; the input reads as it did. -/
def gridMaySpec : ChangeSpec := { name := "gridMay", fn := fun _ => fun
  | [d] => { results := [.lit (.bool true)], args := [d] }
  | _ => none }
def gridMayRow : OpenClaim := { program := "ytnpdploihlgcgaadoor", sum := "20f9b6f50c1a7da24399807a7af7c9e47fb37171f40b3de0fb06a58eb0faaad2", func := "skep/skeplaw07.GridMay", spec := "gridMay", unfollowed := true, recurses := true, named := ["skep/grid.steps"], apart := false, laid := [("skep/grid.steps", laid_skep_grid_steps)] }
def GridMaySaid : Prop := gridMayRow.holds Tryd.pinned (OpenSpec.ofChange gridMaySpec)

/-- ITS FALSE NEIGHBOUR: 'it returns false'. Refute it at one input. -/
def gridMayWrong : ChangeSpec := { name := "gridMay", fn := fun _ => fun
  | [d] => { results := [.lit (.bool false)], args := [d] }
  | _ => none }
def GridMayWrongFalsely : Prop := gridMayRow.holds Tryd.pinned (OpenSpec.ofChange gridMayWrong)

/-- 'skeplaw07.GridEdges': WHATEVER THE INPUT: true; the input reads as it did. -/
def gridEdgesSpec : ChangeSpec := { name := "gridEdges", fn := fun _ => fun
  | [d1, d2, d3] => { results := [.lit (.bool true)], args := [d1, d2, d3] }
  | _ => none }
def gridEdgesRow : OpenClaim := { program := "ytnpdploihlgcgaadoor", sum := "20f9b6f50c1a7da24399807a7af7c9e47fb37171f40b3de0fb06a58eb0faaad2", func := "skep/skeplaw07.GridEdges", spec := "gridEdges", unfollowed := true, recurses := true, named := ["skep/grid.steps"], apart := false, laid := [("skep/grid.steps", laid_skep_grid_steps)] }
def GridEdgesSaid : Prop := gridEdgesRow.holds Tryd.pinned (OpenSpec.ofChange gridEdgesSpec)

/-- ITS FALSE NEIGHBOUR: 'it returns false'. Refute it at one input. -/
def gridEdgesWrong : ChangeSpec := { name := "gridEdges", fn := fun _ => fun
  | [d1, d2, d3] => { results := [.lit (.bool false)], args := [d1, d2, d3] }
  | _ => none }
def GridEdgesWrongFalsely : Prop := gridEdgesRow.holds Tryd.pinned (OpenSpec.ofChange gridEdgesWrong)

/-- 'skeplaw07.GridCells': WHATEVER THE INPUT: true; the input reads as it did. -/
def gridCellsSpec : ChangeSpec := { name := "gridCells", fn := fun _ => fun
  | [d1, d2] => { results := [.lit (.bool true)], args := [d1, d2] }
  | _ => none }
def gridCellsRow : OpenClaim := { program := "ytnpdploihlgcgaadoor", sum := "20f9b6f50c1a7da24399807a7af7c9e47fb37171f40b3de0fb06a58eb0faaad2", func := "skep/skeplaw07.GridCells", spec := "gridCells", unfollowed := true, recurses := true, named := ["skep/grid.steps"], apart := false, laid := [("skep/grid.steps", laid_skep_grid_steps)] }
def GridCellsSaid : Prop := gridCellsRow.holds Tryd.pinned (OpenSpec.ofChange gridCellsSpec)

/-- ITS FALSE NEIGHBOUR: 'it returns false'. Refute it at one input. -/
def gridCellsWrong : ChangeSpec := { name := "gridCells", fn := fun _ => fun
  | [d1, d2] => { results := [.lit (.bool false)], args := [d1, d2] }
  | _ => none }
def GridCellsWrongFalsely : Prop := gridCellsRow.holds Tryd.pinned (OpenSpec.ofChange gridCellsWrong)

/-- 'skeplaw07.GridAway': WHATEVER THE INPUT: true; the input reads as it did. -/
def gridAwaySpec : ChangeSpec := { name := "gridAway", fn := fun _ => fun
  | [d1, d2, d3] => { results := [.lit (.bool true)], args := [d1, d2, d3] }
  | _ => none }
def gridAwayRow : OpenClaim := { program := "ytnpdploihlgcgaadoor", sum := "20f9b6f50c1a7da24399807a7af7c9e47fb37171f40b3de0fb06a58eb0faaad2", func := "skep/skeplaw07.GridAway", spec := "gridAway", unfollowed := true, recurses := true, named := ["skep/grid.steps"], apart := false, laid := [("skep/grid.steps", laid_skep_grid_steps)] }
def GridAwaySaid : Prop := gridAwayRow.holds Tryd.pinned (OpenSpec.ofChange gridAwaySpec)

/-- ITS FALSE NEIGHBOUR: 'it returns false'. Refute it at one input. -/
def gridAwayWrong : ChangeSpec := { name := "gridAway", fn := fun _ => fun
  | [d1, d2, d3] => { results := [.lit (.bool false)], args := [d1, d2, d3] }
  | _ => none }
def GridAwayWrongFalsely : Prop := gridAwayRow.holds Tryd.pinned (OpenSpec.ofChange gridAwayWrong)

/-- 'skeplaw07.GridMoves': WHATEVER THE INPUT: true; the input reads as it did. -/
def gridMovesSpec : ChangeSpec := { name := "gridMoves", fn := fun _ => fun
  | [d1, d2, d3] => { results := [.lit (.bool true)], args := [d1, d2, d3] }
  | _ => none }
def gridMovesRow : OpenClaim := { program := "ytnpdploihlgcgaadoor", sum := "20f9b6f50c1a7da24399807a7af7c9e47fb37171f40b3de0fb06a58eb0faaad2", func := "skep/skeplaw07.GridMoves", spec := "gridMoves", unfollowed := true, recurses := true, named := ["skep/grid.steps"], apart := false, laid := [("skep/grid.steps", laid_skep_grid_steps)] }
def GridMovesSaid : Prop := gridMovesRow.holds Tryd.pinned (OpenSpec.ofChange gridMovesSpec)

/-- ITS FALSE NEIGHBOUR: 'it returns false'. Refute it at one input. -/
def gridMovesWrong : ChangeSpec := { name := "gridMoves", fn := fun _ => fun
  | [d1, d2, d3] => { results := [.lit (.bool false)], args := [d1, d2, d3] }
  | _ => none }
def GridMovesWrongFalsely : Prop := gridMovesRow.holds Tryd.pinned (OpenSpec.ofChange gridMovesWrong)

/-- 'skeplaw07.GridLegal': WHATEVER THE INPUT: true; the input reads as it did. -/
def gridLegalSpec : ChangeSpec := { name := "gridLegal", fn := fun _ => fun
  | [d1, d2] => { results := [.lit (.bool true)], args := [d1, d2] }
  | _ => none }
def gridLegalRow : OpenClaim := { program := "ytnpdploihlgcgaadoor", sum := "20f9b6f50c1a7da24399807a7af7c9e47fb37171f40b3de0fb06a58eb0faaad2", func := "skep/skeplaw07.GridLegal", spec := "gridLegal", unfollowed := true, recurses := true, named := ["skep/grid.steps"], apart := false, laid := [("skep/grid.steps", laid_skep_grid_steps)] }
def GridLegalSaid : Prop := gridLegalRow.holds Tryd.pinned (OpenSpec.ofChange gridLegalSpec)

/-- ITS FALSE NEIGHBOUR: 'it returns false'. Refute it at one input. -/
def gridLegalWrong : ChangeSpec := { name := "gridLegal", fn := fun _ => fun
  | [d1, d2] => { results := [.lit (.bool false)], args := [d1, d2] }
  | _ => none }
def GridLegalWrongFalsely : Prop := gridLegalRow.holds Tryd.pinned (OpenSpec.ofChange gridLegalWrong)

/-- 'skeplaw07.GridBack': WHATEVER THE INPUT: true; the input reads as it did. -/
def gridBackSpec : ChangeSpec := { name := "gridBack", fn := fun _ => fun
  | [d1, d2] => { results := [.lit (.bool true)], args := [d1, d2] }
  | _ => none }
def gridBackRow : OpenClaim := { program := "ytnpdploihlgcgaadoor", sum := "20f9b6f50c1a7da24399807a7af7c9e47fb37171f40b3de0fb06a58eb0faaad2", func := "skep/skeplaw07.GridBack", spec := "gridBack", unfollowed := true, recurses := true, named := ["skep/grid.steps"], apart := false, laid := [("skep/grid.steps", laid_skep_grid_steps)] }
def GridBackSaid : Prop := gridBackRow.holds Tryd.pinned (OpenSpec.ofChange gridBackSpec)

/-- ITS FALSE NEIGHBOUR: 'it returns false'. Refute it at one input. -/
def gridBackWrong : ChangeSpec := { name := "gridBack", fn := fun _ => fun
  | [d1, d2] => { results := [.lit (.bool false)], args := [d1, d2] }
  | _ => none }
def GridBackWrongFalsely : Prop := gridBackRow.holds Tryd.pinned (OpenSpec.ofChange gridBackWrong)

/-- 'skeplaw07.GridOwn': WHATEVER THE INPUT: true; the input reads as it did. -/
def gridOwnSpec : ChangeSpec := { name := "gridOwn", fn := fun _ => fun
  | [d1, d2] => { results := [.lit (.bool true)], args := [d1, d2] }
  | _ => none }
def gridOwnRow : OpenClaim := { program := "ytnpdploihlgcgaadoor", sum := "20f9b6f50c1a7da24399807a7af7c9e47fb37171f40b3de0fb06a58eb0faaad2", func := "skep/skeplaw07.GridOwn", spec := "gridOwn", unfollowed := true, recurses := true, named := ["skep/grid.steps"], apart := false, laid := [("skep/grid.steps", laid_skep_grid_steps)] }
def GridOwnSaid : Prop := gridOwnRow.holds Tryd.pinned (OpenSpec.ofChange gridOwnSpec)

/-- ITS FALSE NEIGHBOUR: 'it returns false'. Refute it at one input. -/
def gridOwnWrong : ChangeSpec := { name := "gridOwn", fn := fun _ => fun
  | [d1, d2] => { results := [.lit (.bool false)], args := [d1, d2] }
  | _ => none }
def GridOwnWrongFalsely : Prop := gridOwnRow.holds Tryd.pinned (OpenSpec.ofChange gridOwnWrong)

/-- 'skeplaw07.GridSteps': WHATEVER THE INPUT: true; the input reads as it did. -/
def gridStepsSpec : ChangeSpec := { name := "gridSteps", fn := fun _ => fun
  | [d1, d2, d3, d4] => { results := [.lit (.bool true)], args := [d1, d2, d3, d4] }
  | _ => none }
def gridStepsRow : OpenClaim := { program := "ytnpdploihlgcgaadoor", sum := "20f9b6f50c1a7da24399807a7af7c9e47fb37171f40b3de0fb06a58eb0faaad2", func := "skep/skeplaw07.GridSteps", spec := "gridSteps", unfollowed := true, recurses := true, named := ["skep/grid.steps"], apart := false, laid := [("skep/grid.steps", laid_skep_grid_steps)] }
def GridStepsSaid : Prop := gridStepsRow.holds Tryd.pinned (OpenSpec.ofChange gridStepsSpec)

/-- ITS FALSE NEIGHBOUR: 'it returns false'. Refute it at one input. -/
def gridStepsWrong : ChangeSpec := { name := "gridSteps", fn := fun _ => fun
  | [d1, d2, d3, d4] => { results := [.lit (.bool false)], args := [d1, d2, d3, d4] }
  | _ => none }
def GridStepsWrongFalsely : Prop := gridStepsRow.holds Tryd.pinned (OpenSpec.ofChange gridStepsWrong)

/- THE SECOND FORM. 'bulk': how many values and letters a reading holds, each counted each time it is reached (what is shared counts as often as it is met; a slice's spare places count too). A statement '..UptoSaid' is the law's where the arguments, and the package variables that the reading takes, are together of bulk at most 1048576: NARROWER than '..Said'. Prove '..Said' where nothing that the law and all that it calls make is longer than what came in: it says more and counts as full. Else prove '..UptoSaid'. A law counts once. -/
mutual
def uptoBulk {H : Type} : DataW H → Nat
  | .lit (.string bytes) => bytes.length + 1
  | .lit _ => 1
  | .nil => 1
  | .ptr d => uptoBulk d + 1
  | .slice elems spare => uptoBulkAll elems + uptoBulkAll spare + 1
  | .agg parts => uptoBulkAll parts + 1
  | .iface _ d => uptoBulk d + 1
  | .map entries => uptoBulkEntries entries + 1
  | .held _ => 1
def uptoBulkAll {H : Type} : List (DataW H) → Nat
  | [] => 0
  | d :: r => uptoBulk d + uptoBulkAll r
def uptoBulkEntries {H : Type} : List (Lit × DataW H) → Nat
  | [] => 0
  | x :: r => uptoBulkEntry x + uptoBulkEntries r
def uptoBulkEntry {H : Type} : Lit × DataW H → Nat
  | (.string bytes, d) => bytes.length + uptoBulk d + 1
  | (_, d) => uptoBulk d + 1
 end
def uptoSmall : (H : Type) → List (DataW H) → Bool := fun _ ds => decide (uptoBulkAll ds ≤ 1048576)
def OpenSpec.upto (s : _root_.Go.ChangeSpec) : _root_.Go.OpenSpec := { _root_.Go.OpenSpec.ofChange s with cond := some uptoSmall }

/-- 'skeplaw07.GridPoses', WHERE WHAT IT READS IS OF BULK AT MOST 1048576: true; the input reads as it did. -/
def gridPosesUptoRow : OpenClaim := { program := "ytnpdploihlgcgaadoor", sum := "20f9b6f50c1a7da24399807a7af7c9e47fb37171f40b3de0fb06a58eb0faaad2", func := "skep/skeplaw07.GridPoses", spec := "gridPoses", unfollowed := true, recurses := true, named := ["skep/grid.steps"], apart := false, laid := [("skep/grid.steps", laid_skep_grid_steps)], narrowed := true }
def GridPosesUptoSaid : Prop := gridPosesUptoRow.holds Tryd.pinned (OpenSpec.upto gridPosesSpec)

/-- 'skeplaw07.GridAll', WHERE WHAT IT READS IS OF BULK AT MOST 1048576: true; the input reads as it did. -/
def gridAllUptoRow : OpenClaim := { program := "ytnpdploihlgcgaadoor", sum := "20f9b6f50c1a7da24399807a7af7c9e47fb37171f40b3de0fb06a58eb0faaad2", func := "skep/skeplaw07.GridAll", spec := "gridAll", unfollowed := true, recurses := true, named := ["skep/grid.steps"], apart := false, laid := [("skep/grid.steps", laid_skep_grid_steps)], narrowed := true }
def GridAllUptoSaid : Prop := gridAllUptoRow.holds Tryd.pinned (OpenSpec.upto gridAllSpec)

/-- 'skeplaw07.GridMay', WHERE WHAT IT READS IS OF BULK AT MOST 1048576: true; the input reads as it did. -/
def gridMayUptoRow : OpenClaim := { program := "ytnpdploihlgcgaadoor", sum := "20f9b6f50c1a7da24399807a7af7c9e47fb37171f40b3de0fb06a58eb0faaad2", func := "skep/skeplaw07.GridMay", spec := "gridMay", unfollowed := true, recurses := true, named := ["skep/grid.steps"], apart := false, laid := [("skep/grid.steps", laid_skep_grid_steps)], narrowed := true }
def GridMayUptoSaid : Prop := gridMayUptoRow.holds Tryd.pinned (OpenSpec.upto gridMaySpec)

/-- 'skeplaw07.GridEdges', WHERE WHAT IT READS IS OF BULK AT MOST 1048576: true; the input reads as it did. -/
def gridEdgesUptoRow : OpenClaim := { program := "ytnpdploihlgcgaadoor", sum := "20f9b6f50c1a7da24399807a7af7c9e47fb37171f40b3de0fb06a58eb0faaad2", func := "skep/skeplaw07.GridEdges", spec := "gridEdges", unfollowed := true, recurses := true, named := ["skep/grid.steps"], apart := false, laid := [("skep/grid.steps", laid_skep_grid_steps)], narrowed := true }
def GridEdgesUptoSaid : Prop := gridEdgesUptoRow.holds Tryd.pinned (OpenSpec.upto gridEdgesSpec)

/-- 'skeplaw07.GridCells', WHERE WHAT IT READS IS OF BULK AT MOST 1048576: true; the input reads as it did. -/
def gridCellsUptoRow : OpenClaim := { program := "ytnpdploihlgcgaadoor", sum := "20f9b6f50c1a7da24399807a7af7c9e47fb37171f40b3de0fb06a58eb0faaad2", func := "skep/skeplaw07.GridCells", spec := "gridCells", unfollowed := true, recurses := true, named := ["skep/grid.steps"], apart := false, laid := [("skep/grid.steps", laid_skep_grid_steps)], narrowed := true }
def GridCellsUptoSaid : Prop := gridCellsUptoRow.holds Tryd.pinned (OpenSpec.upto gridCellsSpec)

/-- 'skeplaw07.GridAway', WHERE WHAT IT READS IS OF BULK AT MOST 1048576: true; the input reads as it did. -/
def gridAwayUptoRow : OpenClaim := { program := "ytnpdploihlgcgaadoor", sum := "20f9b6f50c1a7da24399807a7af7c9e47fb37171f40b3de0fb06a58eb0faaad2", func := "skep/skeplaw07.GridAway", spec := "gridAway", unfollowed := true, recurses := true, named := ["skep/grid.steps"], apart := false, laid := [("skep/grid.steps", laid_skep_grid_steps)], narrowed := true }
def GridAwayUptoSaid : Prop := gridAwayUptoRow.holds Tryd.pinned (OpenSpec.upto gridAwaySpec)

/-- 'skeplaw07.GridMoves', WHERE WHAT IT READS IS OF BULK AT MOST 1048576: true; the input reads as it did. -/
def gridMovesUptoRow : OpenClaim := { program := "ytnpdploihlgcgaadoor", sum := "20f9b6f50c1a7da24399807a7af7c9e47fb37171f40b3de0fb06a58eb0faaad2", func := "skep/skeplaw07.GridMoves", spec := "gridMoves", unfollowed := true, recurses := true, named := ["skep/grid.steps"], apart := false, laid := [("skep/grid.steps", laid_skep_grid_steps)], narrowed := true }
def GridMovesUptoSaid : Prop := gridMovesUptoRow.holds Tryd.pinned (OpenSpec.upto gridMovesSpec)

/-- 'skeplaw07.GridLegal', WHERE WHAT IT READS IS OF BULK AT MOST 1048576: true; the input reads as it did. -/
def gridLegalUptoRow : OpenClaim := { program := "ytnpdploihlgcgaadoor", sum := "20f9b6f50c1a7da24399807a7af7c9e47fb37171f40b3de0fb06a58eb0faaad2", func := "skep/skeplaw07.GridLegal", spec := "gridLegal", unfollowed := true, recurses := true, named := ["skep/grid.steps"], apart := false, laid := [("skep/grid.steps", laid_skep_grid_steps)], narrowed := true }
def GridLegalUptoSaid : Prop := gridLegalUptoRow.holds Tryd.pinned (OpenSpec.upto gridLegalSpec)

/-- 'skeplaw07.GridBack', WHERE WHAT IT READS IS OF BULK AT MOST 1048576: true; the input reads as it did. -/
def gridBackUptoRow : OpenClaim := { program := "ytnpdploihlgcgaadoor", sum := "20f9b6f50c1a7da24399807a7af7c9e47fb37171f40b3de0fb06a58eb0faaad2", func := "skep/skeplaw07.GridBack", spec := "gridBack", unfollowed := true, recurses := true, named := ["skep/grid.steps"], apart := false, laid := [("skep/grid.steps", laid_skep_grid_steps)], narrowed := true }
def GridBackUptoSaid : Prop := gridBackUptoRow.holds Tryd.pinned (OpenSpec.upto gridBackSpec)

/-- 'skeplaw07.GridOwn', WHERE WHAT IT READS IS OF BULK AT MOST 1048576: true; the input reads as it did. -/
def gridOwnUptoRow : OpenClaim := { program := "ytnpdploihlgcgaadoor", sum := "20f9b6f50c1a7da24399807a7af7c9e47fb37171f40b3de0fb06a58eb0faaad2", func := "skep/skeplaw07.GridOwn", spec := "gridOwn", unfollowed := true, recurses := true, named := ["skep/grid.steps"], apart := false, laid := [("skep/grid.steps", laid_skep_grid_steps)], narrowed := true }
def GridOwnUptoSaid : Prop := gridOwnUptoRow.holds Tryd.pinned (OpenSpec.upto gridOwnSpec)

/-- 'skeplaw07.GridSteps', WHERE WHAT IT READS IS OF BULK AT MOST 1048576: true; the input reads as it did. -/
def gridStepsUptoRow : OpenClaim := { program := "ytnpdploihlgcgaadoor", sum := "20f9b6f50c1a7da24399807a7af7c9e47fb37171f40b3de0fb06a58eb0faaad2", func := "skep/skeplaw07.GridSteps", spec := "gridSteps", unfollowed := true, recurses := true, named := ["skep/grid.steps"], apart := false, laid := [("skep/grid.steps", laid_skep_grid_steps)], narrowed := true }
def GridStepsUptoSaid : Prop := gridStepsUptoRow.holds Tryd.pinned (OpenSpec.upto gridStepsSpec)

end Rows
end Go.Proofs.YtnpdploihlgcgaaDoor
