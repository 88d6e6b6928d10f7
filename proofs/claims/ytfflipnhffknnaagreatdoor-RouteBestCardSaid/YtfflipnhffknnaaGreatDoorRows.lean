/-
  NARROWER THAN 'FOR EVERY INPUT', by the rows' own cells (each row's printed sentence says how): RouteArgs: laid · RouteLater: laid · RouteTimes: laid · RouteThere: laid · PlanBegins: laid · PlanRight: laid · PlanTurns: laid · PlanStands: laid · RouteFinds: laid · RouteRight: laid · RouteBest: laid · RouteBudget: laid · RouteAround: laid · RouteAlone: laid · RouteFree: laid · PlanRounds: laid · PlanRounded: laid · PlanHolds: laid.
  DERIVED. THE GIVEN ROWS OF THIS SEAT. 18 by the template 'for every input the law returns true; each argument reads behind the call as it read before'; 0 by the template 'total and deterministic' (their statements: YtfflipnhffknnaaGreatDoorTotals.lean).
  GIVEN WITH THE SEED: the statements are not yours to turn. If you find one false, say at which input.
  Laid BY PROGRAM, IN A SANDBOX (cutbox-rows.mjs): the forced cells as the released guide's own fill.sh prints them over the translation 7064b55a5d314a72… (all of the seat's roots in one cut). By AI agents, Wed Nov 11 2026. No macro, syntax, notation, axiom, sorry.
-/
import Derived.Test.YtfflipnhffknnaaGreatDoorChecked
import GoSem.Claim
import GoSem.ClaimJoined
import GoSem.ClaimMapViews
import Derived.JoinedTies
import Derived.KernelRfl
namespace Go.Proofs.YtfflipnhffknnaaGreatDoor
/- THE CELL 'sum', in the pinned program and in every row, IS THE sha256 OF THE DUMP (.gsa) THAT YtfflipnhffknnaaGreatDoorProg.lean LOADS. Nothing in Lean hashes anything: it is a label: what it is worth is what the hold of that sum in a sandbox is worth. -/
noncomputable def Tryz.pinned : Pinned := { name := "ytfflipnhffknnaagreatdoor", sum := "7064b55a5d314a728a955ddaa6b49e4a704724114e12971d874f22bbf16d3342", checked := Tryz.checked }
namespace Rows
def none {H : Type} : Left H := { results := [], args := [] }

/- WHAT THE LISTED PACKAGE-LEVEL VARIABLES READ AS WHEN THE CALL BEGINS. Each datum BY PROGRAM (the guide's laid-datum.mjs) off the statement by which the dump's own 'gosem.cut.vars' lays the variable. In a bare row this is a premise. The card (YtfflipnhffknnaaGreatDoorCards.lean) ties it to the program's text. -/
def laid_skep_grid_steps {H : Type} : DataW H := .agg [.agg [.lit (.int .i64 0), .lit (.int .i64 (-1))], .agg [.lit (.int .i64 1), .lit (.int .i64 0)], .agg [.lit (.int .i64 0), .lit (.int .i64 1)], .agg [.lit (.int .i64 (-1)), .lit (.int .i64 0)]]

/-- 'skeplaw12.RouteArgs': WHATEVER THE INPUT: true; the input reads as it did. -/
def routeArgsSpec : ChangeSpec := { name := "routeArgs", fn := fun _ => fun
  | [d1, d2, d3, d4, d5] => { results := [.lit (.bool true)], args := [d1, d2, d3, d4, d5] }
  | _ => none }
def routeArgsRow : OpenClaim := { program := "ytfflipnhffknnaagreatdoor", sum := "7064b55a5d314a728a955ddaa6b49e4a704724114e12971d874f22bbf16d3342", func := "skep/skeplaw12.RouteArgs", spec := "routeArgs", inPlace := ["sync/atomic.LoadUint32", "(*internal/sync.Mutex).Lock", "internal/race.Disable", "sync/atomic.CompareAndSwapInt32", "internal/race.Enable", "internal/race.Acquire", "(*internal/sync.Mutex).lockSlow", "internal/sync.runtime_canSpin", "internal/sync.runtime_doSpin", "internal/sync.throw", "internal/sync.runtime_nanotime", "internal/sync.runtime_SemacquireMutex", "sync/atomic.AddInt32", "(*internal/sync.Mutex).Unlock", "internal/race.ReleaseMerge", "(*internal/sync.Mutex).unlockSlow", "internal/sync.fatal", "internal/sync.runtime_Semrelease", "sync/atomic.StoreUint32"], unfollowed := true, recurses := true, named := ["skep/grid.steps"], plainKeys := false, apart := false, laid := [("skep/grid.steps", laid_skep_grid_steps)] }
def RouteArgsSaid : Prop := routeArgsRow.holds Tryz.pinned (OpenSpec.ofChange routeArgsSpec)

/-- ITS FALSE NEIGHBOUR: 'it returns false'. Refute it at one input. -/
def routeArgsWrong : ChangeSpec := { name := "routeArgs", fn := fun _ => fun
  | [d1, d2, d3, d4, d5] => { results := [.lit (.bool false)], args := [d1, d2, d3, d4, d5] }
  | _ => none }
def RouteArgsWrongFalsely : Prop := routeArgsRow.holds Tryz.pinned (OpenSpec.ofChange routeArgsWrong)

/-- 'skeplaw12.RouteLater': WHATEVER THE INPUT: true; the input reads as it did. -/
def routeLaterSpec : ChangeSpec := { name := "routeLater", fn := fun _ => fun
  | [d1, d2, d3, d4, d5, d6] => { results := [.lit (.bool true)], args := [d1, d2, d3, d4, d5, d6] }
  | _ => none }
def routeLaterRow : OpenClaim := { program := "ytfflipnhffknnaagreatdoor", sum := "7064b55a5d314a728a955ddaa6b49e4a704724114e12971d874f22bbf16d3342", func := "skep/skeplaw12.RouteLater", spec := "routeLater", inPlace := ["sync/atomic.LoadUint32", "(*internal/sync.Mutex).Lock", "internal/race.Disable", "sync/atomic.CompareAndSwapInt32", "internal/race.Enable", "internal/race.Acquire", "(*internal/sync.Mutex).lockSlow", "internal/sync.runtime_canSpin", "internal/sync.runtime_doSpin", "internal/sync.throw", "internal/sync.runtime_nanotime", "internal/sync.runtime_SemacquireMutex", "sync/atomic.AddInt32", "(*internal/sync.Mutex).Unlock", "internal/race.ReleaseMerge", "(*internal/sync.Mutex).unlockSlow", "internal/sync.fatal", "internal/sync.runtime_Semrelease", "sync/atomic.StoreUint32"], unfollowed := true, recurses := true, named := ["skep/grid.steps"], plainKeys := false, apart := false, laid := [("skep/grid.steps", laid_skep_grid_steps)] }
def RouteLaterSaid : Prop := routeLaterRow.holds Tryz.pinned (OpenSpec.ofChange routeLaterSpec)

/-- ITS FALSE NEIGHBOUR: 'it returns false'. Refute it at one input. -/
def routeLaterWrong : ChangeSpec := { name := "routeLater", fn := fun _ => fun
  | [d1, d2, d3, d4, d5, d6] => { results := [.lit (.bool false)], args := [d1, d2, d3, d4, d5, d6] }
  | _ => none }
def RouteLaterWrongFalsely : Prop := routeLaterRow.holds Tryz.pinned (OpenSpec.ofChange routeLaterWrong)

/-- 'skeplaw12.RouteTimes': WHATEVER THE INPUT: true; the input reads as it did. -/
def routeTimesSpec : ChangeSpec := { name := "routeTimes", fn := fun _ => fun
  | [d1, d2, d3] => { results := [.lit (.bool true)], args := [d1, d2, d3] }
  | _ => none }
def routeTimesRow : OpenClaim := { program := "ytfflipnhffknnaagreatdoor", sum := "7064b55a5d314a728a955ddaa6b49e4a704724114e12971d874f22bbf16d3342", func := "skep/skeplaw12.RouteTimes", spec := "routeTimes", inPlace := ["sync/atomic.LoadUint32", "(*internal/sync.Mutex).Lock", "internal/race.Disable", "sync/atomic.CompareAndSwapInt32", "internal/race.Enable", "internal/race.Acquire", "(*internal/sync.Mutex).lockSlow", "internal/sync.runtime_canSpin", "internal/sync.runtime_doSpin", "internal/sync.throw", "internal/sync.runtime_nanotime", "internal/sync.runtime_SemacquireMutex", "sync/atomic.AddInt32", "(*internal/sync.Mutex).Unlock", "internal/race.ReleaseMerge", "(*internal/sync.Mutex).unlockSlow", "internal/sync.fatal", "internal/sync.runtime_Semrelease", "sync/atomic.StoreUint32"], unfollowed := true, recurses := true, named := ["skep/grid.steps"], plainKeys := false, apart := false, laid := [("skep/grid.steps", laid_skep_grid_steps)] }
def RouteTimesSaid : Prop := routeTimesRow.holds Tryz.pinned (OpenSpec.ofChange routeTimesSpec)

/-- ITS FALSE NEIGHBOUR: 'it returns false'. Refute it at one input. -/
def routeTimesWrong : ChangeSpec := { name := "routeTimes", fn := fun _ => fun
  | [d1, d2, d3] => { results := [.lit (.bool false)], args := [d1, d2, d3] }
  | _ => none }
def RouteTimesWrongFalsely : Prop := routeTimesRow.holds Tryz.pinned (OpenSpec.ofChange routeTimesWrong)

/-- 'skeplaw12.RouteThere': WHATEVER THE INPUT: true; the input reads as it did. -/
def routeThereSpec : ChangeSpec := { name := "routeThere", fn := fun _ => fun
  | [d1, d2, d3, d4] => { results := [.lit (.bool true)], args := [d1, d2, d3, d4] }
  | _ => none }
def routeThereRow : OpenClaim := { program := "ytfflipnhffknnaagreatdoor", sum := "7064b55a5d314a728a955ddaa6b49e4a704724114e12971d874f22bbf16d3342", func := "skep/skeplaw12.RouteThere", spec := "routeThere", inPlace := ["sync/atomic.LoadUint32", "(*internal/sync.Mutex).Lock", "internal/race.Disable", "sync/atomic.CompareAndSwapInt32", "internal/race.Enable", "internal/race.Acquire", "(*internal/sync.Mutex).lockSlow", "internal/sync.runtime_canSpin", "internal/sync.runtime_doSpin", "internal/sync.throw", "internal/sync.runtime_nanotime", "internal/sync.runtime_SemacquireMutex", "sync/atomic.AddInt32", "(*internal/sync.Mutex).Unlock", "internal/race.ReleaseMerge", "(*internal/sync.Mutex).unlockSlow", "internal/sync.fatal", "internal/sync.runtime_Semrelease", "sync/atomic.StoreUint32"], unfollowed := true, recurses := true, named := ["skep/grid.steps"], plainKeys := false, apart := false, laid := [("skep/grid.steps", laid_skep_grid_steps)] }
def RouteThereSaid : Prop := routeThereRow.holds Tryz.pinned (OpenSpec.ofChange routeThereSpec)

/-- ITS FALSE NEIGHBOUR: 'it returns false'. Refute it at one input. -/
def routeThereWrong : ChangeSpec := { name := "routeThere", fn := fun _ => fun
  | [d1, d2, d3, d4] => { results := [.lit (.bool false)], args := [d1, d2, d3, d4] }
  | _ => none }
def RouteThereWrongFalsely : Prop := routeThereRow.holds Tryz.pinned (OpenSpec.ofChange routeThereWrong)

/-- 'skeplaw13.PlanBegins': WHATEVER THE INPUT: true; the input reads as it did. -/
def planBeginsSpec : ChangeSpec := { name := "planBegins", fn := fun _ => fun
  | [d1, d2, d3, d4, d5] => { results := [.lit (.bool true)], args := [d1, d2, d3, d4, d5] }
  | _ => none }
def planBeginsRow : OpenClaim := { program := "ytfflipnhffknnaagreatdoor", sum := "7064b55a5d314a728a955ddaa6b49e4a704724114e12971d874f22bbf16d3342", func := "skep/skeplaw13.PlanBegins", spec := "planBegins", inPlace := ["sync/atomic.LoadUint32", "(*internal/sync.Mutex).Lock", "internal/race.Disable", "sync/atomic.CompareAndSwapInt32", "internal/race.Enable", "internal/race.Acquire", "(*internal/sync.Mutex).lockSlow", "internal/sync.runtime_canSpin", "internal/sync.runtime_doSpin", "internal/sync.throw", "internal/sync.runtime_nanotime", "internal/sync.runtime_SemacquireMutex", "sync/atomic.AddInt32", "(*internal/sync.Mutex).Unlock", "internal/race.ReleaseMerge", "(*internal/sync.Mutex).unlockSlow", "internal/sync.fatal", "internal/sync.runtime_Semrelease", "sync/atomic.StoreUint32"], unfollowed := true, recurses := true, named := ["skep/grid.steps"], plainKeys := false, apart := false, laid := [("skep/grid.steps", laid_skep_grid_steps)] }
def PlanBeginsSaid : Prop := planBeginsRow.holds Tryz.pinned (OpenSpec.ofChange planBeginsSpec)

/-- ITS FALSE NEIGHBOUR: 'it returns false'. Refute it at one input. -/
def planBeginsWrong : ChangeSpec := { name := "planBegins", fn := fun _ => fun
  | [d1, d2, d3, d4, d5] => { results := [.lit (.bool false)], args := [d1, d2, d3, d4, d5] }
  | _ => none }
def PlanBeginsWrongFalsely : Prop := planBeginsRow.holds Tryz.pinned (OpenSpec.ofChange planBeginsWrong)

/-- 'skeplaw13.PlanRight': WHATEVER THE INPUT: true; the input reads as it did. -/
def planRightSpec : ChangeSpec := { name := "planRight", fn := fun _ => fun
  | [d1, d2, d3] => { results := [.lit (.bool true)], args := [d1, d2, d3] }
  | _ => none }
def planRightRow : OpenClaim := { program := "ytfflipnhffknnaagreatdoor", sum := "7064b55a5d314a728a955ddaa6b49e4a704724114e12971d874f22bbf16d3342", func := "skep/skeplaw13.PlanRight", spec := "planRight", inPlace := ["sync/atomic.LoadUint32", "(*internal/sync.Mutex).Lock", "internal/race.Disable", "sync/atomic.CompareAndSwapInt32", "internal/race.Enable", "internal/race.Acquire", "(*internal/sync.Mutex).lockSlow", "internal/sync.runtime_canSpin", "internal/sync.runtime_doSpin", "internal/sync.throw", "internal/sync.runtime_nanotime", "internal/sync.runtime_SemacquireMutex", "sync/atomic.AddInt32", "(*internal/sync.Mutex).Unlock", "internal/race.ReleaseMerge", "(*internal/sync.Mutex).unlockSlow", "internal/sync.fatal", "internal/sync.runtime_Semrelease", "sync/atomic.StoreUint32"], unfollowed := true, recurses := true, named := ["skep/grid.steps"], plainKeys := false, apart := false, laid := [("skep/grid.steps", laid_skep_grid_steps)] }
def PlanRightSaid : Prop := planRightRow.holds Tryz.pinned (OpenSpec.ofChange planRightSpec)

/-- ITS FALSE NEIGHBOUR: 'it returns false'. Refute it at one input. -/
def planRightWrong : ChangeSpec := { name := "planRight", fn := fun _ => fun
  | [d1, d2, d3] => { results := [.lit (.bool false)], args := [d1, d2, d3] }
  | _ => none }
def PlanRightWrongFalsely : Prop := planRightRow.holds Tryz.pinned (OpenSpec.ofChange planRightWrong)

/-- 'skeplaw13.PlanTurns': WHATEVER THE INPUT: true; the input reads as it did. -/
def planTurnsSpec : ChangeSpec := { name := "planTurns", fn := fun _ => fun
  | [d1, d2, d3, d4, d5, d6] => { results := [.lit (.bool true)], args := [d1, d2, d3, d4, d5, d6] }
  | _ => none }
def planTurnsRow : OpenClaim := { program := "ytfflipnhffknnaagreatdoor", sum := "7064b55a5d314a728a955ddaa6b49e4a704724114e12971d874f22bbf16d3342", func := "skep/skeplaw13.PlanTurns", spec := "planTurns", inPlace := ["sync/atomic.LoadUint32", "(*internal/sync.Mutex).Lock", "internal/race.Disable", "sync/atomic.CompareAndSwapInt32", "internal/race.Enable", "internal/race.Acquire", "(*internal/sync.Mutex).lockSlow", "internal/sync.runtime_canSpin", "internal/sync.runtime_doSpin", "internal/sync.throw", "internal/sync.runtime_nanotime", "internal/sync.runtime_SemacquireMutex", "sync/atomic.AddInt32", "(*internal/sync.Mutex).Unlock", "internal/race.ReleaseMerge", "(*internal/sync.Mutex).unlockSlow", "internal/sync.fatal", "internal/sync.runtime_Semrelease", "sync/atomic.StoreUint32"], unfollowed := true, recurses := true, named := ["skep/grid.steps"], plainKeys := false, apart := false, laid := [("skep/grid.steps", laid_skep_grid_steps)] }
def PlanTurnsSaid : Prop := planTurnsRow.holds Tryz.pinned (OpenSpec.ofChange planTurnsSpec)

/-- ITS FALSE NEIGHBOUR: 'it returns false'. Refute it at one input. -/
def planTurnsWrong : ChangeSpec := { name := "planTurns", fn := fun _ => fun
  | [d1, d2, d3, d4, d5, d6] => { results := [.lit (.bool false)], args := [d1, d2, d3, d4, d5, d6] }
  | _ => none }
def PlanTurnsWrongFalsely : Prop := planTurnsRow.holds Tryz.pinned (OpenSpec.ofChange planTurnsWrong)

/-- 'skeplaw13.PlanStands': WHATEVER THE INPUT: true; the input reads as it did. -/
def planStandsSpec : ChangeSpec := { name := "planStands", fn := fun _ => fun
  | [d1, d2] => { results := [.lit (.bool true)], args := [d1, d2] }
  | _ => none }
def planStandsRow : OpenClaim := { program := "ytfflipnhffknnaagreatdoor", sum := "7064b55a5d314a728a955ddaa6b49e4a704724114e12971d874f22bbf16d3342", func := "skep/skeplaw13.PlanStands", spec := "planStands", inPlace := ["sync/atomic.LoadUint32", "(*internal/sync.Mutex).Lock", "internal/race.Disable", "sync/atomic.CompareAndSwapInt32", "internal/race.Enable", "internal/race.Acquire", "(*internal/sync.Mutex).lockSlow", "internal/sync.runtime_canSpin", "internal/sync.runtime_doSpin", "internal/sync.throw", "internal/sync.runtime_nanotime", "internal/sync.runtime_SemacquireMutex", "sync/atomic.AddInt32", "(*internal/sync.Mutex).Unlock", "internal/race.ReleaseMerge", "(*internal/sync.Mutex).unlockSlow", "internal/sync.fatal", "internal/sync.runtime_Semrelease", "sync/atomic.StoreUint32"], unfollowed := true, recurses := true, named := ["skep/grid.steps"], plainKeys := false, apart := false, laid := [("skep/grid.steps", laid_skep_grid_steps)] }
def PlanStandsSaid : Prop := planStandsRow.holds Tryz.pinned (OpenSpec.ofChange planStandsSpec)

/-- ITS FALSE NEIGHBOUR: 'it returns false'. Refute it at one input. -/
def planStandsWrong : ChangeSpec := { name := "planStands", fn := fun _ => fun
  | [d1, d2] => { results := [.lit (.bool false)], args := [d1, d2] }
  | _ => none }
def PlanStandsWrongFalsely : Prop := planStandsRow.holds Tryz.pinned (OpenSpec.ofChange planStandsWrong)

/-- 'skeplaw12.RouteFinds': WHATEVER THE INPUT: true; the input reads as it did. -/
def routeFindsSpec : ChangeSpec := { name := "routeFinds", fn := fun _ => fun
  | [d1, d2, d3, d4, d5, d6, d7] => { results := [.lit (.bool true)], args := [d1, d2, d3, d4, d5, d6, d7] }
  | _ => none }
def routeFindsRow : OpenClaim := { program := "ytfflipnhffknnaagreatdoor", sum := "7064b55a5d314a728a955ddaa6b49e4a704724114e12971d874f22bbf16d3342", func := "skep/skeplaw12.RouteFinds", spec := "routeFinds", inPlace := ["sync/atomic.LoadUint32", "(*internal/sync.Mutex).Lock", "internal/race.Disable", "sync/atomic.CompareAndSwapInt32", "internal/race.Enable", "internal/race.Acquire", "(*internal/sync.Mutex).lockSlow", "internal/sync.runtime_canSpin", "internal/sync.runtime_doSpin", "internal/sync.throw", "internal/sync.runtime_nanotime", "internal/sync.runtime_SemacquireMutex", "sync/atomic.AddInt32", "(*internal/sync.Mutex).Unlock", "internal/race.ReleaseMerge", "(*internal/sync.Mutex).unlockSlow", "internal/sync.fatal", "internal/sync.runtime_Semrelease", "sync/atomic.StoreUint32", "slices.overlaps[skep/api.Slot]"], unfollowed := true, recurses := true, named := ["skep/grid.steps"], plainKeys := false, apart := false, laid := [("skep/grid.steps", laid_skep_grid_steps)] }
def RouteFindsSaid : Prop := routeFindsRow.holds Tryz.pinned (OpenSpec.ofChange routeFindsSpec)

/-- ITS FALSE NEIGHBOUR: 'it returns false'. Refute it at one input. -/
def routeFindsWrong : ChangeSpec := { name := "routeFinds", fn := fun _ => fun
  | [d1, d2, d3, d4, d5, d6, d7] => { results := [.lit (.bool false)], args := [d1, d2, d3, d4, d5, d6, d7] }
  | _ => none }
def RouteFindsWrongFalsely : Prop := routeFindsRow.holds Tryz.pinned (OpenSpec.ofChange routeFindsWrong)

/-- 'skeplaw12.RouteRight': WHATEVER THE INPUT: true; the input reads as it did. -/
def routeRightSpec : ChangeSpec := { name := "routeRight", fn := fun _ => fun
  | [d1, d2, d3, d4, d5, d6, d7] => { results := [.lit (.bool true)], args := [d1, d2, d3, d4, d5, d6, d7] }
  | _ => none }
def routeRightRow : OpenClaim := { program := "ytfflipnhffknnaagreatdoor", sum := "7064b55a5d314a728a955ddaa6b49e4a704724114e12971d874f22bbf16d3342", func := "skep/skeplaw12.RouteRight", spec := "routeRight", inPlace := ["sync/atomic.LoadUint32", "(*internal/sync.Mutex).Lock", "internal/race.Disable", "sync/atomic.CompareAndSwapInt32", "internal/race.Enable", "internal/race.Acquire", "(*internal/sync.Mutex).lockSlow", "internal/sync.runtime_canSpin", "internal/sync.runtime_doSpin", "internal/sync.throw", "internal/sync.runtime_nanotime", "internal/sync.runtime_SemacquireMutex", "sync/atomic.AddInt32", "(*internal/sync.Mutex).Unlock", "internal/race.ReleaseMerge", "(*internal/sync.Mutex).unlockSlow", "internal/sync.fatal", "internal/sync.runtime_Semrelease", "sync/atomic.StoreUint32", "slices.overlaps[skep/api.Slot]"], unfollowed := true, recurses := true, named := ["skep/grid.steps"], plainKeys := false, apart := false, laid := [("skep/grid.steps", laid_skep_grid_steps)] }
def RouteRightSaid : Prop := routeRightRow.holds Tryz.pinned (OpenSpec.ofChange routeRightSpec)

/-- ITS FALSE NEIGHBOUR: 'it returns false'. Refute it at one input. -/
def routeRightWrong : ChangeSpec := { name := "routeRight", fn := fun _ => fun
  | [d1, d2, d3, d4, d5, d6, d7] => { results := [.lit (.bool false)], args := [d1, d2, d3, d4, d5, d6, d7] }
  | _ => none }
def RouteRightWrongFalsely : Prop := routeRightRow.holds Tryz.pinned (OpenSpec.ofChange routeRightWrong)

/-- 'skeplaw12.RouteBest': WHATEVER THE INPUT: true; the input reads as it did. -/
def routeBestSpec : ChangeSpec := { name := "routeBest", fn := fun _ => fun
  | [d1, d2, d3, d4, d5, d6] => { results := [.lit (.bool true)], args := [d1, d2, d3, d4, d5, d6] }
  | _ => none }
def routeBestRow : OpenClaim := { program := "ytfflipnhffknnaagreatdoor", sum := "7064b55a5d314a728a955ddaa6b49e4a704724114e12971d874f22bbf16d3342", func := "skep/skeplaw12.RouteBest", spec := "routeBest", inPlace := ["sync/atomic.LoadUint32", "(*internal/sync.Mutex).Lock", "internal/race.Disable", "sync/atomic.CompareAndSwapInt32", "internal/race.Enable", "internal/race.Acquire", "(*internal/sync.Mutex).lockSlow", "internal/sync.runtime_canSpin", "internal/sync.runtime_doSpin", "internal/sync.throw", "internal/sync.runtime_nanotime", "internal/sync.runtime_SemacquireMutex", "sync/atomic.AddInt32", "(*internal/sync.Mutex).Unlock", "internal/race.ReleaseMerge", "(*internal/sync.Mutex).unlockSlow", "internal/sync.fatal", "internal/sync.runtime_Semrelease", "sync/atomic.StoreUint32", "slices.overlaps[skep/api.Slot]"], unfollowed := true, recurses := true, named := ["skep/grid.steps"], plainKeys := false, apart := false, laid := [("skep/grid.steps", laid_skep_grid_steps)] }
def RouteBestSaid : Prop := routeBestRow.holds Tryz.pinned (OpenSpec.ofChange routeBestSpec)

/-- ITS FALSE NEIGHBOUR: 'it returns false'. Refute it at one input. -/
def routeBestWrong : ChangeSpec := { name := "routeBest", fn := fun _ => fun
  | [d1, d2, d3, d4, d5, d6] => { results := [.lit (.bool false)], args := [d1, d2, d3, d4, d5, d6] }
  | _ => none }
def RouteBestWrongFalsely : Prop := routeBestRow.holds Tryz.pinned (OpenSpec.ofChange routeBestWrong)

/-- 'skeplaw12.RouteBudget': WHATEVER THE INPUT: true; the input reads as it did. -/
def routeBudgetSpec : ChangeSpec := { name := "routeBudget", fn := fun _ => fun
  | [d1, d2, d3, d4, d5, d6, d7] => { results := [.lit (.bool true)], args := [d1, d2, d3, d4, d5, d6, d7] }
  | _ => none }
def routeBudgetRow : OpenClaim := { program := "ytfflipnhffknnaagreatdoor", sum := "7064b55a5d314a728a955ddaa6b49e4a704724114e12971d874f22bbf16d3342", func := "skep/skeplaw12.RouteBudget", spec := "routeBudget", inPlace := ["sync/atomic.LoadUint32", "(*internal/sync.Mutex).Lock", "internal/race.Disable", "sync/atomic.CompareAndSwapInt32", "internal/race.Enable", "internal/race.Acquire", "(*internal/sync.Mutex).lockSlow", "internal/sync.runtime_canSpin", "internal/sync.runtime_doSpin", "internal/sync.throw", "internal/sync.runtime_nanotime", "internal/sync.runtime_SemacquireMutex", "sync/atomic.AddInt32", "(*internal/sync.Mutex).Unlock", "internal/race.ReleaseMerge", "(*internal/sync.Mutex).unlockSlow", "internal/sync.fatal", "internal/sync.runtime_Semrelease", "sync/atomic.StoreUint32", "slices.overlaps[skep/api.Slot]"], unfollowed := true, recurses := true, named := ["skep/grid.steps"], plainKeys := false, apart := false, laid := [("skep/grid.steps", laid_skep_grid_steps)] }
def RouteBudgetSaid : Prop := routeBudgetRow.holds Tryz.pinned (OpenSpec.ofChange routeBudgetSpec)

/-- ITS FALSE NEIGHBOUR: 'it returns false'. Refute it at one input. -/
def routeBudgetWrong : ChangeSpec := { name := "routeBudget", fn := fun _ => fun
  | [d1, d2, d3, d4, d5, d6, d7] => { results := [.lit (.bool false)], args := [d1, d2, d3, d4, d5, d6, d7] }
  | _ => none }
def RouteBudgetWrongFalsely : Prop := routeBudgetRow.holds Tryz.pinned (OpenSpec.ofChange routeBudgetWrong)

/-- 'skeplaw12.RouteAround': WHATEVER THE INPUT: true; the input reads as it did. -/
def routeAroundSpec : ChangeSpec := { name := "routeAround", fn := fun _ => fun
  | [d1, d2, d3, d4, d5] => { results := [.lit (.bool true)], args := [d1, d2, d3, d4, d5] }
  | _ => none }
def routeAroundRow : OpenClaim := { program := "ytfflipnhffknnaagreatdoor", sum := "7064b55a5d314a728a955ddaa6b49e4a704724114e12971d874f22bbf16d3342", func := "skep/skeplaw12.RouteAround", spec := "routeAround", inPlace := ["sync/atomic.LoadUint32", "(*internal/sync.Mutex).Lock", "internal/race.Disable", "sync/atomic.CompareAndSwapInt32", "internal/race.Enable", "internal/race.Acquire", "(*internal/sync.Mutex).lockSlow", "internal/sync.runtime_canSpin", "internal/sync.runtime_doSpin", "internal/sync.throw", "internal/sync.runtime_nanotime", "internal/sync.runtime_SemacquireMutex", "sync/atomic.AddInt32", "(*internal/sync.Mutex).Unlock", "internal/race.ReleaseMerge", "(*internal/sync.Mutex).unlockSlow", "internal/sync.fatal", "internal/sync.runtime_Semrelease", "sync/atomic.StoreUint32", "slices.overlaps[skep/api.Slot]"], unfollowed := true, recurses := true, named := ["skep/grid.steps"], plainKeys := false, apart := false, laid := [("skep/grid.steps", laid_skep_grid_steps)] }
def RouteAroundSaid : Prop := routeAroundRow.holds Tryz.pinned (OpenSpec.ofChange routeAroundSpec)

/-- ITS FALSE NEIGHBOUR: 'it returns false'. Refute it at one input. -/
def routeAroundWrong : ChangeSpec := { name := "routeAround", fn := fun _ => fun
  | [d1, d2, d3, d4, d5] => { results := [.lit (.bool false)], args := [d1, d2, d3, d4, d5] }
  | _ => none }
def RouteAroundWrongFalsely : Prop := routeAroundRow.holds Tryz.pinned (OpenSpec.ofChange routeAroundWrong)

/-- 'skeplaw12.RouteAlone': WHATEVER THE INPUT: true; the input reads as it did. -/
def routeAloneSpec : ChangeSpec := { name := "routeAlone", fn := fun _ => fun
  | [d1, d2, d3, d4, d5, d6, d7] => { results := [.lit (.bool true)], args := [d1, d2, d3, d4, d5, d6, d7] }
  | _ => none }
def routeAloneRow : OpenClaim := { program := "ytfflipnhffknnaagreatdoor", sum := "7064b55a5d314a728a955ddaa6b49e4a704724114e12971d874f22bbf16d3342", func := "skep/skeplaw12.RouteAlone", spec := "routeAlone", inPlace := ["sync/atomic.LoadUint32", "(*internal/sync.Mutex).Lock", "internal/race.Disable", "sync/atomic.CompareAndSwapInt32", "internal/race.Enable", "internal/race.Acquire", "(*internal/sync.Mutex).lockSlow", "internal/sync.runtime_canSpin", "internal/sync.runtime_doSpin", "internal/sync.throw", "internal/sync.runtime_nanotime", "internal/sync.runtime_SemacquireMutex", "sync/atomic.AddInt32", "(*internal/sync.Mutex).Unlock", "internal/race.ReleaseMerge", "(*internal/sync.Mutex).unlockSlow", "internal/sync.fatal", "internal/sync.runtime_Semrelease", "sync/atomic.StoreUint32", "slices.overlaps[skep/api.Slot]"], unfollowed := true, recurses := true, named := ["skep/grid.steps"], plainKeys := false, apart := false, laid := [("skep/grid.steps", laid_skep_grid_steps)] }
def RouteAloneSaid : Prop := routeAloneRow.holds Tryz.pinned (OpenSpec.ofChange routeAloneSpec)

/-- ITS FALSE NEIGHBOUR: 'it returns false'. Refute it at one input. -/
def routeAloneWrong : ChangeSpec := { name := "routeAlone", fn := fun _ => fun
  | [d1, d2, d3, d4, d5, d6, d7] => { results := [.lit (.bool false)], args := [d1, d2, d3, d4, d5, d6, d7] }
  | _ => none }
def RouteAloneWrongFalsely : Prop := routeAloneRow.holds Tryz.pinned (OpenSpec.ofChange routeAloneWrong)

/-- 'skeplaw12.RouteFree': WHATEVER THE INPUT: true; the input reads as it did. -/
def routeFreeSpec : ChangeSpec := { name := "routeFree", fn := fun _ => fun
  | [d1, d2, d3, d4, d5] => { results := [.lit (.bool true)], args := [d1, d2, d3, d4, d5] }
  | _ => none }
def routeFreeRow : OpenClaim := { program := "ytfflipnhffknnaagreatdoor", sum := "7064b55a5d314a728a955ddaa6b49e4a704724114e12971d874f22bbf16d3342", func := "skep/skeplaw12.RouteFree", spec := "routeFree", inPlace := ["sync/atomic.LoadUint32", "(*internal/sync.Mutex).Lock", "internal/race.Disable", "sync/atomic.CompareAndSwapInt32", "internal/race.Enable", "internal/race.Acquire", "(*internal/sync.Mutex).lockSlow", "internal/sync.runtime_canSpin", "internal/sync.runtime_doSpin", "internal/sync.throw", "internal/sync.runtime_nanotime", "internal/sync.runtime_SemacquireMutex", "sync/atomic.AddInt32", "(*internal/sync.Mutex).Unlock", "internal/race.ReleaseMerge", "(*internal/sync.Mutex).unlockSlow", "internal/sync.fatal", "internal/sync.runtime_Semrelease", "sync/atomic.StoreUint32", "slices.overlaps[skep/api.Slot]"], unfollowed := true, recurses := true, named := ["skep/grid.steps"], plainKeys := false, apart := false, laid := [("skep/grid.steps", laid_skep_grid_steps)] }
def RouteFreeSaid : Prop := routeFreeRow.holds Tryz.pinned (OpenSpec.ofChange routeFreeSpec)

/-- ITS FALSE NEIGHBOUR: 'it returns false'. Refute it at one input. -/
def routeFreeWrong : ChangeSpec := { name := "routeFree", fn := fun _ => fun
  | [d1, d2, d3, d4, d5] => { results := [.lit (.bool false)], args := [d1, d2, d3, d4, d5] }
  | _ => none }
def RouteFreeWrongFalsely : Prop := routeFreeRow.holds Tryz.pinned (OpenSpec.ofChange routeFreeWrong)

/-- 'skeplaw13.PlanRounds': WHATEVER THE INPUT: true; the input reads as it did. -/
def planRoundsSpec : ChangeSpec := { name := "planRounds", fn := fun _ => fun
  | [d1, d2, d3, d4, d5, d6] => { results := [.lit (.bool true)], args := [d1, d2, d3, d4, d5, d6] }
  | _ => none }
def planRoundsRow : OpenClaim := { program := "ytfflipnhffknnaagreatdoor", sum := "7064b55a5d314a728a955ddaa6b49e4a704724114e12971d874f22bbf16d3342", func := "skep/skeplaw13.PlanRounds", spec := "planRounds", inPlace := ["sync/atomic.LoadUint32", "(*internal/sync.Mutex).Lock", "internal/race.Disable", "sync/atomic.CompareAndSwapInt32", "internal/race.Enable", "internal/race.Acquire", "(*internal/sync.Mutex).lockSlow", "internal/sync.runtime_canSpin", "internal/sync.runtime_doSpin", "internal/sync.throw", "internal/sync.runtime_nanotime", "internal/sync.runtime_SemacquireMutex", "sync/atomic.AddInt32", "(*internal/sync.Mutex).Unlock", "internal/race.ReleaseMerge", "(*internal/sync.Mutex).unlockSlow", "internal/sync.fatal", "internal/sync.runtime_Semrelease", "sync/atomic.StoreUint32", "slices.overlaps[skep/api.Slot]"], unfollowed := true, recurses := true, named := ["skep/grid.steps"], plainKeys := false, apart := false, laid := [("skep/grid.steps", laid_skep_grid_steps)] }
def PlanRoundsSaid : Prop := planRoundsRow.holds Tryz.pinned (OpenSpec.ofChange planRoundsSpec)

/-- ITS FALSE NEIGHBOUR: 'it returns false'. Refute it at one input. -/
def planRoundsWrong : ChangeSpec := { name := "planRounds", fn := fun _ => fun
  | [d1, d2, d3, d4, d5, d6] => { results := [.lit (.bool false)], args := [d1, d2, d3, d4, d5, d6] }
  | _ => none }
def PlanRoundsWrongFalsely : Prop := planRoundsRow.holds Tryz.pinned (OpenSpec.ofChange planRoundsWrong)

/-- 'skeplaw13.PlanRounded': WHATEVER THE INPUT: true; the input reads as it did. -/
def planRoundedSpec : ChangeSpec := { name := "planRounded", fn := fun _ => fun
  | [d1, d2, d3, d4, d5, d6] => { results := [.lit (.bool true)], args := [d1, d2, d3, d4, d5, d6] }
  | _ => none }
def planRoundedRow : OpenClaim := { program := "ytfflipnhffknnaagreatdoor", sum := "7064b55a5d314a728a955ddaa6b49e4a704724114e12971d874f22bbf16d3342", func := "skep/skeplaw13.PlanRounded", spec := "planRounded", inPlace := ["sync/atomic.LoadUint32", "(*internal/sync.Mutex).Lock", "internal/race.Disable", "sync/atomic.CompareAndSwapInt32", "internal/race.Enable", "internal/race.Acquire", "(*internal/sync.Mutex).lockSlow", "internal/sync.runtime_canSpin", "internal/sync.runtime_doSpin", "internal/sync.throw", "internal/sync.runtime_nanotime", "internal/sync.runtime_SemacquireMutex", "sync/atomic.AddInt32", "(*internal/sync.Mutex).Unlock", "internal/race.ReleaseMerge", "(*internal/sync.Mutex).unlockSlow", "internal/sync.fatal", "internal/sync.runtime_Semrelease", "sync/atomic.StoreUint32", "slices.overlaps[skep/api.Slot]"], unfollowed := true, recurses := true, named := ["skep/grid.steps"], plainKeys := false, apart := false, laid := [("skep/grid.steps", laid_skep_grid_steps)] }
def PlanRoundedSaid : Prop := planRoundedRow.holds Tryz.pinned (OpenSpec.ofChange planRoundedSpec)

/-- ITS FALSE NEIGHBOUR: 'it returns false'. Refute it at one input. -/
def planRoundedWrong : ChangeSpec := { name := "planRounded", fn := fun _ => fun
  | [d1, d2, d3, d4, d5, d6] => { results := [.lit (.bool false)], args := [d1, d2, d3, d4, d5, d6] }
  | _ => none }
def PlanRoundedWrongFalsely : Prop := planRoundedRow.holds Tryz.pinned (OpenSpec.ofChange planRoundedWrong)

/-- 'skeplaw13.PlanHolds': WHATEVER THE INPUT: true; the input reads as it did. -/
def planHoldsSpec : ChangeSpec := { name := "planHolds", fn := fun _ => fun
  | [d1, d2, d3, d4, d5, d6] => { results := [.lit (.bool true)], args := [d1, d2, d3, d4, d5, d6] }
  | _ => none }
def planHoldsRow : OpenClaim := { program := "ytfflipnhffknnaagreatdoor", sum := "7064b55a5d314a728a955ddaa6b49e4a704724114e12971d874f22bbf16d3342", func := "skep/skeplaw13.PlanHolds", spec := "planHolds", inPlace := ["sync/atomic.LoadUint32", "(*internal/sync.Mutex).Lock", "internal/race.Disable", "sync/atomic.CompareAndSwapInt32", "internal/race.Enable", "internal/race.Acquire", "(*internal/sync.Mutex).lockSlow", "internal/sync.runtime_canSpin", "internal/sync.runtime_doSpin", "internal/sync.throw", "internal/sync.runtime_nanotime", "internal/sync.runtime_SemacquireMutex", "sync/atomic.AddInt32", "(*internal/sync.Mutex).Unlock", "internal/race.ReleaseMerge", "(*internal/sync.Mutex).unlockSlow", "internal/sync.fatal", "internal/sync.runtime_Semrelease", "sync/atomic.StoreUint32", "slices.overlaps[skep/api.Slot]"], unfollowed := true, recurses := true, named := ["skep/grid.steps"], plainKeys := false, apart := false, laid := [("skep/grid.steps", laid_skep_grid_steps)] }
def PlanHoldsSaid : Prop := planHoldsRow.holds Tryz.pinned (OpenSpec.ofChange planHoldsSpec)

/-- ITS FALSE NEIGHBOUR: 'it returns false'. Refute it at one input. -/
def planHoldsWrong : ChangeSpec := { name := "planHolds", fn := fun _ => fun
  | [d1, d2, d3, d4, d5, d6] => { results := [.lit (.bool false)], args := [d1, d2, d3, d4, d5, d6] }
  | _ => none }
def PlanHoldsWrongFalsely : Prop := planHoldsRow.holds Tryz.pinned (OpenSpec.ofChange planHoldsWrong)

/- THE SECOND FORM. 'bulk': how many values and letters a reading holds, each counted each time it is reached (what is shared counts as often as it is met; a slice's spare places count too). A statement '..UptoSaid' is the law's where the arguments, and the package variables that the reading takes, are together of bulk at most 1048576: NARROWER than '..Said'. Prove '..Said' where nothing that the law and all that it calls make is longer than what came in: it says more and counts as full. Else prove '..UptoSaid'. A law counts once. -/
mutual
def uptoBulk {H : Type} : DataW H → Nat
  | .lit (.string bytes) => bytes.length + 1
  | .lit _ => 1
  | .nil => 1
  | .ptr d => uptoBulk d + 1
  | .slice elems spare => uptoBulkAll elems + uptoBulkAll spare + 1
  | .agg parts => uptoBulkAll parts + 1
  | .iface _ d => uptoBulk d + 1
  | .map entries => uptoBulkEntries entries + 1
  | .held _ => 1
def uptoBulkAll {H : Type} : List (DataW H) → Nat
  | [] => 0
  | d :: r => uptoBulk d + uptoBulkAll r
def uptoBulkEntries {H : Type} : List (Lit × DataW H) → Nat
  | [] => 0
  | x :: r => uptoBulkEntry x + uptoBulkEntries r
def uptoBulkEntry {H : Type} : Lit × DataW H → Nat
  | (.string bytes, d) => bytes.length + uptoBulk d + 1
  | (_, d) => uptoBulk d + 1
 end
def uptoSmall : (H : Type) → List (DataW H) → Bool := fun _ ds => decide (uptoBulkAll ds ≤ 1048576)
def OpenSpec.upto (s : _root_.Go.ChangeSpec) : _root_.Go.OpenSpec := { _root_.Go.OpenSpec.ofChange s with cond := some uptoSmall }

/-- 'skeplaw12.RouteArgs', WHERE WHAT IT READS IS OF BULK AT MOST 1048576: true; the input reads as it did. -/
def routeArgsUptoRow : OpenClaim := { program := "ytfflipnhffknnaagreatdoor", sum := "7064b55a5d314a728a955ddaa6b49e4a704724114e12971d874f22bbf16d3342", func := "skep/skeplaw12.RouteArgs", spec := "routeArgs", inPlace := ["sync/atomic.LoadUint32", "(*internal/sync.Mutex).Lock", "internal/race.Disable", "sync/atomic.CompareAndSwapInt32", "internal/race.Enable", "internal/race.Acquire", "(*internal/sync.Mutex).lockSlow", "internal/sync.runtime_canSpin", "internal/sync.runtime_doSpin", "internal/sync.throw", "internal/sync.runtime_nanotime", "internal/sync.runtime_SemacquireMutex", "sync/atomic.AddInt32", "(*internal/sync.Mutex).Unlock", "internal/race.ReleaseMerge", "(*internal/sync.Mutex).unlockSlow", "internal/sync.fatal", "internal/sync.runtime_Semrelease", "sync/atomic.StoreUint32"], unfollowed := true, recurses := true, named := ["skep/grid.steps"], plainKeys := false, apart := false, laid := [("skep/grid.steps", laid_skep_grid_steps)], narrowed := true }
def RouteArgsUptoSaid : Prop := routeArgsUptoRow.holds Tryz.pinned (OpenSpec.upto routeArgsSpec)

/-- 'skeplaw12.RouteLater', WHERE WHAT IT READS IS OF BULK AT MOST 1048576: true; the input reads as it did. -/
def routeLaterUptoRow : OpenClaim := { program := "ytfflipnhffknnaagreatdoor", sum := "7064b55a5d314a728a955ddaa6b49e4a704724114e12971d874f22bbf16d3342", func := "skep/skeplaw12.RouteLater", spec := "routeLater", inPlace := ["sync/atomic.LoadUint32", "(*internal/sync.Mutex).Lock", "internal/race.Disable", "sync/atomic.CompareAndSwapInt32", "internal/race.Enable", "internal/race.Acquire", "(*internal/sync.Mutex).lockSlow", "internal/sync.runtime_canSpin", "internal/sync.runtime_doSpin", "internal/sync.throw", "internal/sync.runtime_nanotime", "internal/sync.runtime_SemacquireMutex", "sync/atomic.AddInt32", "(*internal/sync.Mutex).Unlock", "internal/race.ReleaseMerge", "(*internal/sync.Mutex).unlockSlow", "internal/sync.fatal", "internal/sync.runtime_Semrelease", "sync/atomic.StoreUint32"], unfollowed := true, recurses := true, named := ["skep/grid.steps"], plainKeys := false, apart := false, laid := [("skep/grid.steps", laid_skep_grid_steps)], narrowed := true }
def RouteLaterUptoSaid : Prop := routeLaterUptoRow.holds Tryz.pinned (OpenSpec.upto routeLaterSpec)

/-- 'skeplaw12.RouteTimes', WHERE WHAT IT READS IS OF BULK AT MOST 1048576: true; the input reads as it did. -/
def routeTimesUptoRow : OpenClaim := { program := "ytfflipnhffknnaagreatdoor", sum := "7064b55a5d314a728a955ddaa6b49e4a704724114e12971d874f22bbf16d3342", func := "skep/skeplaw12.RouteTimes", spec := "routeTimes", inPlace := ["sync/atomic.LoadUint32", "(*internal/sync.Mutex).Lock", "internal/race.Disable", "sync/atomic.CompareAndSwapInt32", "internal/race.Enable", "internal/race.Acquire", "(*internal/sync.Mutex).lockSlow", "internal/sync.runtime_canSpin", "internal/sync.runtime_doSpin", "internal/sync.throw", "internal/sync.runtime_nanotime", "internal/sync.runtime_SemacquireMutex", "sync/atomic.AddInt32", "(*internal/sync.Mutex).Unlock", "internal/race.ReleaseMerge", "(*internal/sync.Mutex).unlockSlow", "internal/sync.fatal", "internal/sync.runtime_Semrelease", "sync/atomic.StoreUint32"], unfollowed := true, recurses := true, named := ["skep/grid.steps"], plainKeys := false, apart := false, laid := [("skep/grid.steps", laid_skep_grid_steps)], narrowed := true }
def RouteTimesUptoSaid : Prop := routeTimesUptoRow.holds Tryz.pinned (OpenSpec.upto routeTimesSpec)

/-- 'skeplaw12.RouteThere', WHERE WHAT IT READS IS OF BULK AT MOST 1048576: true; the input reads as it did. -/
def routeThereUptoRow : OpenClaim := { program := "ytfflipnhffknnaagreatdoor", sum := "7064b55a5d314a728a955ddaa6b49e4a704724114e12971d874f22bbf16d3342", func := "skep/skeplaw12.RouteThere", spec := "routeThere", inPlace := ["sync/atomic.LoadUint32", "(*internal/sync.Mutex).Lock", "internal/race.Disable", "sync/atomic.CompareAndSwapInt32", "internal/race.Enable", "internal/race.Acquire", "(*internal/sync.Mutex).lockSlow", "internal/sync.runtime_canSpin", "internal/sync.runtime_doSpin", "internal/sync.throw", "internal/sync.runtime_nanotime", "internal/sync.runtime_SemacquireMutex", "sync/atomic.AddInt32", "(*internal/sync.Mutex).Unlock", "internal/race.ReleaseMerge", "(*internal/sync.Mutex).unlockSlow", "internal/sync.fatal", "internal/sync.runtime_Semrelease", "sync/atomic.StoreUint32"], unfollowed := true, recurses := true, named := ["skep/grid.steps"], plainKeys := false, apart := false, laid := [("skep/grid.steps", laid_skep_grid_steps)], narrowed := true }
def RouteThereUptoSaid : Prop := routeThereUptoRow.holds Tryz.pinned (OpenSpec.upto routeThereSpec)

/-- 'skeplaw13.PlanBegins', WHERE WHAT IT READS IS OF BULK AT MOST 1048576: true; the input reads as it did. -/
def planBeginsUptoRow : OpenClaim := { program := "ytfflipnhffknnaagreatdoor", sum := "7064b55a5d314a728a955ddaa6b49e4a704724114e12971d874f22bbf16d3342", func := "skep/skeplaw13.PlanBegins", spec := "planBegins", inPlace := ["sync/atomic.LoadUint32", "(*internal/sync.Mutex).Lock", "internal/race.Disable", "sync/atomic.CompareAndSwapInt32", "internal/race.Enable", "internal/race.Acquire", "(*internal/sync.Mutex).lockSlow", "internal/sync.runtime_canSpin", "internal/sync.runtime_doSpin", "internal/sync.throw", "internal/sync.runtime_nanotime", "internal/sync.runtime_SemacquireMutex", "sync/atomic.AddInt32", "(*internal/sync.Mutex).Unlock", "internal/race.ReleaseMerge", "(*internal/sync.Mutex).unlockSlow", "internal/sync.fatal", "internal/sync.runtime_Semrelease", "sync/atomic.StoreUint32"], unfollowed := true, recurses := true, named := ["skep/grid.steps"], plainKeys := false, apart := false, laid := [("skep/grid.steps", laid_skep_grid_steps)], narrowed := true }
def PlanBeginsUptoSaid : Prop := planBeginsUptoRow.holds Tryz.pinned (OpenSpec.upto planBeginsSpec)

/-- 'skeplaw13.PlanRight', WHERE WHAT IT READS IS OF BULK AT MOST 1048576: true; the input reads as it did. -/
def planRightUptoRow : OpenClaim := { program := "ytfflipnhffknnaagreatdoor", sum := "7064b55a5d314a728a955ddaa6b49e4a704724114e12971d874f22bbf16d3342", func := "skep/skeplaw13.PlanRight", spec := "planRight", inPlace := ["sync/atomic.LoadUint32", "(*internal/sync.Mutex).Lock", "internal/race.Disable", "sync/atomic.CompareAndSwapInt32", "internal/race.Enable", "internal/race.Acquire", "(*internal/sync.Mutex).lockSlow", "internal/sync.runtime_canSpin", "internal/sync.runtime_doSpin", "internal/sync.throw", "internal/sync.runtime_nanotime", "internal/sync.runtime_SemacquireMutex", "sync/atomic.AddInt32", "(*internal/sync.Mutex).Unlock", "internal/race.ReleaseMerge", "(*internal/sync.Mutex).unlockSlow", "internal/sync.fatal", "internal/sync.runtime_Semrelease", "sync/atomic.StoreUint32"], unfollowed := true, recurses := true, named := ["skep/grid.steps"], plainKeys := false, apart := false, laid := [("skep/grid.steps", laid_skep_grid_steps)], narrowed := true }
def PlanRightUptoSaid : Prop := planRightUptoRow.holds Tryz.pinned (OpenSpec.upto planRightSpec)

/-- 'skeplaw13.PlanTurns', WHERE WHAT IT READS IS OF BULK AT MOST 1048576: true; the input reads as it did. -/
def planTurnsUptoRow : OpenClaim := { program := "ytfflipnhffknnaagreatdoor", sum := "7064b55a5d314a728a955ddaa6b49e4a704724114e12971d874f22bbf16d3342", func := "skep/skeplaw13.PlanTurns", spec := "planTurns", inPlace := ["sync/atomic.LoadUint32", "(*internal/sync.Mutex).Lock", "internal/race.Disable", "sync/atomic.CompareAndSwapInt32", "internal/race.Enable", "internal/race.Acquire", "(*internal/sync.Mutex).lockSlow", "internal/sync.runtime_canSpin", "internal/sync.runtime_doSpin", "internal/sync.throw", "internal/sync.runtime_nanotime", "internal/sync.runtime_SemacquireMutex", "sync/atomic.AddInt32", "(*internal/sync.Mutex).Unlock", "internal/race.ReleaseMerge", "(*internal/sync.Mutex).unlockSlow", "internal/sync.fatal", "internal/sync.runtime_Semrelease", "sync/atomic.StoreUint32"], unfollowed := true, recurses := true, named := ["skep/grid.steps"], plainKeys := false, apart := false, laid := [("skep/grid.steps", laid_skep_grid_steps)], narrowed := true }
def PlanTurnsUptoSaid : Prop := planTurnsUptoRow.holds Tryz.pinned (OpenSpec.upto planTurnsSpec)

/-- 'skeplaw13.PlanStands', WHERE WHAT IT READS IS OF BULK AT MOST 1048576: true; the input reads as it did. -/
def planStandsUptoRow : OpenClaim := { program := "ytfflipnhffknnaagreatdoor", sum := "7064b55a5d314a728a955ddaa6b49e4a704724114e12971d874f22bbf16d3342", func := "skep/skeplaw13.PlanStands", spec := "planStands", inPlace := ["sync/atomic.LoadUint32", "(*internal/sync.Mutex).Lock", "internal/race.Disable", "sync/atomic.CompareAndSwapInt32", "internal/race.Enable", "internal/race.Acquire", "(*internal/sync.Mutex).lockSlow", "internal/sync.runtime_canSpin", "internal/sync.runtime_doSpin", "internal/sync.throw", "internal/sync.runtime_nanotime", "internal/sync.runtime_SemacquireMutex", "sync/atomic.AddInt32", "(*internal/sync.Mutex).Unlock", "internal/race.ReleaseMerge", "(*internal/sync.Mutex).unlockSlow", "internal/sync.fatal", "internal/sync.runtime_Semrelease", "sync/atomic.StoreUint32"], unfollowed := true, recurses := true, named := ["skep/grid.steps"], plainKeys := false, apart := false, laid := [("skep/grid.steps", laid_skep_grid_steps)], narrowed := true }
def PlanStandsUptoSaid : Prop := planStandsUptoRow.holds Tryz.pinned (OpenSpec.upto planStandsSpec)

/-- 'skeplaw12.RouteFinds', WHERE WHAT IT READS IS OF BULK AT MOST 1048576: true; the input reads as it did. -/
def routeFindsUptoRow : OpenClaim := { program := "ytfflipnhffknnaagreatdoor", sum := "7064b55a5d314a728a955ddaa6b49e4a704724114e12971d874f22bbf16d3342", func := "skep/skeplaw12.RouteFinds", spec := "routeFinds", inPlace := ["sync/atomic.LoadUint32", "(*internal/sync.Mutex).Lock", "internal/race.Disable", "sync/atomic.CompareAndSwapInt32", "internal/race.Enable", "internal/race.Acquire", "(*internal/sync.Mutex).lockSlow", "internal/sync.runtime_canSpin", "internal/sync.runtime_doSpin", "internal/sync.throw", "internal/sync.runtime_nanotime", "internal/sync.runtime_SemacquireMutex", "sync/atomic.AddInt32", "(*internal/sync.Mutex).Unlock", "internal/race.ReleaseMerge", "(*internal/sync.Mutex).unlockSlow", "internal/sync.fatal", "internal/sync.runtime_Semrelease", "sync/atomic.StoreUint32", "slices.overlaps[skep/api.Slot]"], unfollowed := true, recurses := true, named := ["skep/grid.steps"], plainKeys := false, apart := false, laid := [("skep/grid.steps", laid_skep_grid_steps)], narrowed := true }
def RouteFindsUptoSaid : Prop := routeFindsUptoRow.holds Tryz.pinned (OpenSpec.upto routeFindsSpec)

/-- 'skeplaw12.RouteRight', WHERE WHAT IT READS IS OF BULK AT MOST 1048576: true; the input reads as it did. -/
def routeRightUptoRow : OpenClaim := { program := "ytfflipnhffknnaagreatdoor", sum := "7064b55a5d314a728a955ddaa6b49e4a704724114e12971d874f22bbf16d3342", func := "skep/skeplaw12.RouteRight", spec := "routeRight", inPlace := ["sync/atomic.LoadUint32", "(*internal/sync.Mutex).Lock", "internal/race.Disable", "sync/atomic.CompareAndSwapInt32", "internal/race.Enable", "internal/race.Acquire", "(*internal/sync.Mutex).lockSlow", "internal/sync.runtime_canSpin", "internal/sync.runtime_doSpin", "internal/sync.throw", "internal/sync.runtime_nanotime", "internal/sync.runtime_SemacquireMutex", "sync/atomic.AddInt32", "(*internal/sync.Mutex).Unlock", "internal/race.ReleaseMerge", "(*internal/sync.Mutex).unlockSlow", "internal/sync.fatal", "internal/sync.runtime_Semrelease", "sync/atomic.StoreUint32", "slices.overlaps[skep/api.Slot]"], unfollowed := true, recurses := true, named := ["skep/grid.steps"], plainKeys := false, apart := false, laid := [("skep/grid.steps", laid_skep_grid_steps)], narrowed := true }
def RouteRightUptoSaid : Prop := routeRightUptoRow.holds Tryz.pinned (OpenSpec.upto routeRightSpec)

/-- 'skeplaw12.RouteBest', WHERE WHAT IT READS IS OF BULK AT MOST 1048576: true; the input reads as it did. -/
def routeBestUptoRow : OpenClaim := { program := "ytfflipnhffknnaagreatdoor", sum := "7064b55a5d314a728a955ddaa6b49e4a704724114e12971d874f22bbf16d3342", func := "skep/skeplaw12.RouteBest", spec := "routeBest", inPlace := ["sync/atomic.LoadUint32", "(*internal/sync.Mutex).Lock", "internal/race.Disable", "sync/atomic.CompareAndSwapInt32", "internal/race.Enable", "internal/race.Acquire", "(*internal/sync.Mutex).lockSlow", "internal/sync.runtime_canSpin", "internal/sync.runtime_doSpin", "internal/sync.throw", "internal/sync.runtime_nanotime", "internal/sync.runtime_SemacquireMutex", "sync/atomic.AddInt32", "(*internal/sync.Mutex).Unlock", "internal/race.ReleaseMerge", "(*internal/sync.Mutex).unlockSlow", "internal/sync.fatal", "internal/sync.runtime_Semrelease", "sync/atomic.StoreUint32", "slices.overlaps[skep/api.Slot]"], unfollowed := true, recurses := true, named := ["skep/grid.steps"], plainKeys := false, apart := false, laid := [("skep/grid.steps", laid_skep_grid_steps)], narrowed := true }
def RouteBestUptoSaid : Prop := routeBestUptoRow.holds Tryz.pinned (OpenSpec.upto routeBestSpec)

/-- 'skeplaw12.RouteBudget', WHERE WHAT IT READS IS OF BULK AT MOST 1048576: true; the input reads as it did. -/
def routeBudgetUptoRow : OpenClaim := { program := "ytfflipnhffknnaagreatdoor", sum := "7064b55a5d314a728a955ddaa6b49e4a704724114e12971d874f22bbf16d3342", func := "skep/skeplaw12.RouteBudget", spec := "routeBudget", inPlace := ["sync/atomic.LoadUint32", "(*internal/sync.Mutex).Lock", "internal/race.Disable", "sync/atomic.CompareAndSwapInt32", "internal/race.Enable", "internal/race.Acquire", "(*internal/sync.Mutex).lockSlow", "internal/sync.runtime_canSpin", "internal/sync.runtime_doSpin", "internal/sync.throw", "internal/sync.runtime_nanotime", "internal/sync.runtime_SemacquireMutex", "sync/atomic.AddInt32", "(*internal/sync.Mutex).Unlock", "internal/race.ReleaseMerge", "(*internal/sync.Mutex).unlockSlow", "internal/sync.fatal", "internal/sync.runtime_Semrelease", "sync/atomic.StoreUint32", "slices.overlaps[skep/api.Slot]"], unfollowed := true, recurses := true, named := ["skep/grid.steps"], plainKeys := false, apart := false, laid := [("skep/grid.steps", laid_skep_grid_steps)], narrowed := true }
def RouteBudgetUptoSaid : Prop := routeBudgetUptoRow.holds Tryz.pinned (OpenSpec.upto routeBudgetSpec)

/-- 'skeplaw12.RouteAround', WHERE WHAT IT READS IS OF BULK AT MOST 1048576: true; the input reads as it did. -/
def routeAroundUptoRow : OpenClaim := { program := "ytfflipnhffknnaagreatdoor", sum := "7064b55a5d314a728a955ddaa6b49e4a704724114e12971d874f22bbf16d3342", func := "skep/skeplaw12.RouteAround", spec := "routeAround", inPlace := ["sync/atomic.LoadUint32", "(*internal/sync.Mutex).Lock", "internal/race.Disable", "sync/atomic.CompareAndSwapInt32", "internal/race.Enable", "internal/race.Acquire", "(*internal/sync.Mutex).lockSlow", "internal/sync.runtime_canSpin", "internal/sync.runtime_doSpin", "internal/sync.throw", "internal/sync.runtime_nanotime", "internal/sync.runtime_SemacquireMutex", "sync/atomic.AddInt32", "(*internal/sync.Mutex).Unlock", "internal/race.ReleaseMerge", "(*internal/sync.Mutex).unlockSlow", "internal/sync.fatal", "internal/sync.runtime_Semrelease", "sync/atomic.StoreUint32", "slices.overlaps[skep/api.Slot]"], unfollowed := true, recurses := true, named := ["skep/grid.steps"], plainKeys := false, apart := false, laid := [("skep/grid.steps", laid_skep_grid_steps)], narrowed := true }
def RouteAroundUptoSaid : Prop := routeAroundUptoRow.holds Tryz.pinned (OpenSpec.upto routeAroundSpec)

/-- 'skeplaw12.RouteAlone', WHERE WHAT IT READS IS OF BULK AT MOST 1048576: true; the input reads as it did. -/
def routeAloneUptoRow : OpenClaim := { program := "ytfflipnhffknnaagreatdoor", sum := "7064b55a5d314a728a955ddaa6b49e4a704724114e12971d874f22bbf16d3342", func := "skep/skeplaw12.RouteAlone", spec := "routeAlone", inPlace := ["sync/atomic.LoadUint32", "(*internal/sync.Mutex).Lock", "internal/race.Disable", "sync/atomic.CompareAndSwapInt32", "internal/race.Enable", "internal/race.Acquire", "(*internal/sync.Mutex).lockSlow", "internal/sync.runtime_canSpin", "internal/sync.runtime_doSpin", "internal/sync.throw", "internal/sync.runtime_nanotime", "internal/sync.runtime_SemacquireMutex", "sync/atomic.AddInt32", "(*internal/sync.Mutex).Unlock", "internal/race.ReleaseMerge", "(*internal/sync.Mutex).unlockSlow", "internal/sync.fatal", "internal/sync.runtime_Semrelease", "sync/atomic.StoreUint32", "slices.overlaps[skep/api.Slot]"], unfollowed := true, recurses := true, named := ["skep/grid.steps"], plainKeys := false, apart := false, laid := [("skep/grid.steps", laid_skep_grid_steps)], narrowed := true }
def RouteAloneUptoSaid : Prop := routeAloneUptoRow.holds Tryz.pinned (OpenSpec.upto routeAloneSpec)

/-- 'skeplaw12.RouteFree', WHERE WHAT IT READS IS OF BULK AT MOST 1048576: true; the input reads as it did. -/
def routeFreeUptoRow : OpenClaim := { program := "ytfflipnhffknnaagreatdoor", sum := "7064b55a5d314a728a955ddaa6b49e4a704724114e12971d874f22bbf16d3342", func := "skep/skeplaw12.RouteFree", spec := "routeFree", inPlace := ["sync/atomic.LoadUint32", "(*internal/sync.Mutex).Lock", "internal/race.Disable", "sync/atomic.CompareAndSwapInt32", "internal/race.Enable", "internal/race.Acquire", "(*internal/sync.Mutex).lockSlow", "internal/sync.runtime_canSpin", "internal/sync.runtime_doSpin", "internal/sync.throw", "internal/sync.runtime_nanotime", "internal/sync.runtime_SemacquireMutex", "sync/atomic.AddInt32", "(*internal/sync.Mutex).Unlock", "internal/race.ReleaseMerge", "(*internal/sync.Mutex).unlockSlow", "internal/sync.fatal", "internal/sync.runtime_Semrelease", "sync/atomic.StoreUint32", "slices.overlaps[skep/api.Slot]"], unfollowed := true, recurses := true, named := ["skep/grid.steps"], plainKeys := false, apart := false, laid := [("skep/grid.steps", laid_skep_grid_steps)], narrowed := true }
def RouteFreeUptoSaid : Prop := routeFreeUptoRow.holds Tryz.pinned (OpenSpec.upto routeFreeSpec)

/-- 'skeplaw13.PlanRounds', WHERE WHAT IT READS IS OF BULK AT MOST 1048576: true; the input reads as it did. -/
def planRoundsUptoRow : OpenClaim := { program := "ytfflipnhffknnaagreatdoor", sum := "7064b55a5d314a728a955ddaa6b49e4a704724114e12971d874f22bbf16d3342", func := "skep/skeplaw13.PlanRounds", spec := "planRounds", inPlace := ["sync/atomic.LoadUint32", "(*internal/sync.Mutex).Lock", "internal/race.Disable", "sync/atomic.CompareAndSwapInt32", "internal/race.Enable", "internal/race.Acquire", "(*internal/sync.Mutex).lockSlow", "internal/sync.runtime_canSpin", "internal/sync.runtime_doSpin", "internal/sync.throw", "internal/sync.runtime_nanotime", "internal/sync.runtime_SemacquireMutex", "sync/atomic.AddInt32", "(*internal/sync.Mutex).Unlock", "internal/race.ReleaseMerge", "(*internal/sync.Mutex).unlockSlow", "internal/sync.fatal", "internal/sync.runtime_Semrelease", "sync/atomic.StoreUint32", "slices.overlaps[skep/api.Slot]"], unfollowed := true, recurses := true, named := ["skep/grid.steps"], plainKeys := false, apart := false, laid := [("skep/grid.steps", laid_skep_grid_steps)], narrowed := true }
def PlanRoundsUptoSaid : Prop := planRoundsUptoRow.holds Tryz.pinned (OpenSpec.upto planRoundsSpec)

/-- 'skeplaw13.PlanRounded', WHERE WHAT IT READS IS OF BULK AT MOST 1048576: true; the input reads as it did. -/
def planRoundedUptoRow : OpenClaim := { program := "ytfflipnhffknnaagreatdoor", sum := "7064b55a5d314a728a955ddaa6b49e4a704724114e12971d874f22bbf16d3342", func := "skep/skeplaw13.PlanRounded", spec := "planRounded", inPlace := ["sync/atomic.LoadUint32", "(*internal/sync.Mutex).Lock", "internal/race.Disable", "sync/atomic.CompareAndSwapInt32", "internal/race.Enable", "internal/race.Acquire", "(*internal/sync.Mutex).lockSlow", "internal/sync.runtime_canSpin", "internal/sync.runtime_doSpin", "internal/sync.throw", "internal/sync.runtime_nanotime", "internal/sync.runtime_SemacquireMutex", "sync/atomic.AddInt32", "(*internal/sync.Mutex).Unlock", "internal/race.ReleaseMerge", "(*internal/sync.Mutex).unlockSlow", "internal/sync.fatal", "internal/sync.runtime_Semrelease", "sync/atomic.StoreUint32", "slices.overlaps[skep/api.Slot]"], unfollowed := true, recurses := true, named := ["skep/grid.steps"], plainKeys := false, apart := false, laid := [("skep/grid.steps", laid_skep_grid_steps)], narrowed := true }
def PlanRoundedUptoSaid : Prop := planRoundedUptoRow.holds Tryz.pinned (OpenSpec.upto planRoundedSpec)

/-- 'skeplaw13.PlanHolds', WHERE WHAT IT READS IS OF BULK AT MOST 1048576: true; the input reads as it did. -/
def planHoldsUptoRow : OpenClaim := { program := "ytfflipnhffknnaagreatdoor", sum := "7064b55a5d314a728a955ddaa6b49e4a704724114e12971d874f22bbf16d3342", func := "skep/skeplaw13.PlanHolds", spec := "planHolds", inPlace := ["sync/atomic.LoadUint32", "(*internal/sync.Mutex).Lock", "internal/race.Disable", "sync/atomic.CompareAndSwapInt32", "internal/race.Enable", "internal/race.Acquire", "(*internal/sync.Mutex).lockSlow", "internal/sync.runtime_canSpin", "internal/sync.runtime_doSpin", "internal/sync.throw", "internal/sync.runtime_nanotime", "internal/sync.runtime_SemacquireMutex", "sync/atomic.AddInt32", "(*internal/sync.Mutex).Unlock", "internal/race.ReleaseMerge", "(*internal/sync.Mutex).unlockSlow", "internal/sync.fatal", "internal/sync.runtime_Semrelease", "sync/atomic.StoreUint32", "slices.overlaps[skep/api.Slot]"], unfollowed := true, recurses := true, named := ["skep/grid.steps"], plainKeys := false, apart := false, laid := [("skep/grid.steps", laid_skep_grid_steps)], narrowed := true }
def PlanHoldsUptoSaid : Prop := planHoldsUptoRow.holds Tryz.pinned (OpenSpec.upto planHoldsSpec)

end Rows
end Go.Proofs.YtfflipnhffknnaaGreatDoor
