/-
  DERIVED. GIVEN WITH THE SEED: THE CARDS: each row of YtnpdploihlgcgaaDoorRows.lean that lists a variable, with what it lists TIED to the program's text (the seventh form; the later family's looks); each row that meets fmt, with fmt's text TOLD by the authors' own Lean function (tested against real Go, not proved from fmt's source: count such statements apart). THE CARD IS WHAT COUNTS. Prove the row's statement (the work); the ties are given (YtnpdploihlgcgaaDoorTie.lean); close each card by the builder's one call (the guide's Derived/Test/ToyasCard.lean, 'card_holds'). Laid BY PROGRAM, IN A SANDBOX (cutbox-door.mjs). By AI agents, Wed Nov 11 2026. No macro, syntax, notation, axiom, sorry.
-/
import Derived.Test.YtnpdploihlgcgaaDoorRows
import GoSem.ClaimSeven
namespace Go.Proofs.YtnpdploihlgcgaaDoor
namespace Rows

/-- THE TIED CARD OF 'skeplaw07.GridPoses'. -/
def gridPosesCard : Claim7 := { stood := { row := gridPosesRow, standIns := [], harness := (true, "559c2526e9d685b95d90413c43c19b70e114602596f01004f26ccc6a21ba4032"), looks := false }, kinds := [], alts := [], laidByText := true, laidKinds := [.data], laidTests := true, laidLooks := .later }
def GridPosesCardSaid : Prop := Claim7.holds Tryd.pinned (.plain (OpenSpec.ofChange gridPosesSpec)) gridPosesCard

/-- THE TIED CARD OF 'skeplaw07.GridAll'. -/
def gridAllCard : Claim7 := { stood := { row := gridAllRow, standIns := [], harness := (true, "559c2526e9d685b95d90413c43c19b70e114602596f01004f26ccc6a21ba4032"), looks := false }, kinds := [], alts := [], laidByText := true, laidKinds := [.data], laidTests := true, laidLooks := .later }
def GridAllCardSaid : Prop := Claim7.holds Tryd.pinned (.plain (OpenSpec.ofChange gridAllSpec)) gridAllCard

/-- THE TIED CARD OF 'skeplaw07.GridMay'. -/
def gridMayCard : Claim7 := { stood := { row := gridMayRow, standIns := [], harness := (true, "559c2526e9d685b95d90413c43c19b70e114602596f01004f26ccc6a21ba4032"), looks := false }, kinds := [], alts := [], laidByText := true, laidKinds := [.data], laidTests := true, laidLooks := .later }
def GridMayCardSaid : Prop := Claim7.holds Tryd.pinned (.plain (OpenSpec.ofChange gridMaySpec)) gridMayCard

/-- THE TIED CARD OF 'skeplaw07.GridEdges'. -/
def gridEdgesCard : Claim7 := { stood := { row := gridEdgesRow, standIns := [], harness := (true, "559c2526e9d685b95d90413c43c19b70e114602596f01004f26ccc6a21ba4032"), looks := false }, kinds := [], alts := [], laidByText := true, laidKinds := [.data], laidTests := true, laidLooks := .later }
def GridEdgesCardSaid : Prop := Claim7.holds Tryd.pinned (.plain (OpenSpec.ofChange gridEdgesSpec)) gridEdgesCard

/-- THE TIED CARD OF 'skeplaw07.GridCells'. -/
def gridCellsCard : Claim7 := { stood := { row := gridCellsRow, standIns := [], harness := (true, "559c2526e9d685b95d90413c43c19b70e114602596f01004f26ccc6a21ba4032"), looks := false }, kinds := [], alts := [], laidByText := true, laidKinds := [.data], laidTests := true, laidLooks := .later }
def GridCellsCardSaid : Prop := Claim7.holds Tryd.pinned (.plain (OpenSpec.ofChange gridCellsSpec)) gridCellsCard

/-- THE TIED CARD OF 'skeplaw07.GridAway'. -/
def gridAwayCard : Claim7 := { stood := { row := gridAwayRow, standIns := [], harness := (true, "559c2526e9d685b95d90413c43c19b70e114602596f01004f26ccc6a21ba4032"), looks := false }, kinds := [], alts := [], laidByText := true, laidKinds := [.data], laidTests := true, laidLooks := .later }
def GridAwayCardSaid : Prop := Claim7.holds Tryd.pinned (.plain (OpenSpec.ofChange gridAwaySpec)) gridAwayCard

/-- THE TIED CARD OF 'skeplaw07.GridMoves'. -/
def gridMovesCard : Claim7 := { stood := { row := gridMovesRow, standIns := [], harness := (true, "559c2526e9d685b95d90413c43c19b70e114602596f01004f26ccc6a21ba4032"), looks := false }, kinds := [], alts := [], laidByText := true, laidKinds := [.data], laidTests := true, laidLooks := .later }
def GridMovesCardSaid : Prop := Claim7.holds Tryd.pinned (.plain (OpenSpec.ofChange gridMovesSpec)) gridMovesCard

/-- THE TIED CARD OF 'skeplaw07.GridLegal'. -/
def gridLegalCard : Claim7 := { stood := { row := gridLegalRow, standIns := [], harness := (true, "559c2526e9d685b95d90413c43c19b70e114602596f01004f26ccc6a21ba4032"), looks := false }, kinds := [], alts := [], laidByText := true, laidKinds := [.data], laidTests := true, laidLooks := .later }
def GridLegalCardSaid : Prop := Claim7.holds Tryd.pinned (.plain (OpenSpec.ofChange gridLegalSpec)) gridLegalCard

/-- THE TIED CARD OF 'skeplaw07.GridBack'. -/
def gridBackCard : Claim7 := { stood := { row := gridBackRow, standIns := [], harness := (true, "559c2526e9d685b95d90413c43c19b70e114602596f01004f26ccc6a21ba4032"), looks := false }, kinds := [], alts := [], laidByText := true, laidKinds := [.data], laidTests := true, laidLooks := .later }
def GridBackCardSaid : Prop := Claim7.holds Tryd.pinned (.plain (OpenSpec.ofChange gridBackSpec)) gridBackCard

/-- THE TIED CARD OF 'skeplaw07.GridOwn'. -/
def gridOwnCard : Claim7 := { stood := { row := gridOwnRow, standIns := [], harness := (true, "559c2526e9d685b95d90413c43c19b70e114602596f01004f26ccc6a21ba4032"), looks := false }, kinds := [], alts := [], laidByText := true, laidKinds := [.data], laidTests := true, laidLooks := .later }
def GridOwnCardSaid : Prop := Claim7.holds Tryd.pinned (.plain (OpenSpec.ofChange gridOwnSpec)) gridOwnCard

/-- THE TIED CARD OF 'skeplaw07.GridSteps'. -/
def gridStepsCard : Claim7 := { stood := { row := gridStepsRow, standIns := [], harness := (true, "559c2526e9d685b95d90413c43c19b70e114602596f01004f26ccc6a21ba4032"), looks := false }, kinds := [], alts := [], laidByText := true, laidKinds := [.data], laidTests := true, laidLooks := .later }
def GridStepsCardSaid : Prop := Claim7.holds Tryd.pinned (.plain (OpenSpec.ofChange gridStepsSpec)) gridStepsCard

/-- THE SECOND FORM's CARD OF 'skeplaw07.GridPoses'. -/
def gridPosesUptoCard : Claim7 := { stood := { row := gridPosesUptoRow, standIns := [], harness := (true, "559c2526e9d685b95d90413c43c19b70e114602596f01004f26ccc6a21ba4032"), looks := false }, kinds := [], alts := [], laidByText := true, laidKinds := [.data], laidTests := true, laidLooks := .later }
def GridPosesUptoCardSaid : Prop := Claim7.holds Tryd.pinned (.plain (OpenSpec.upto gridPosesSpec)) gridPosesUptoCard

/-- THE SECOND FORM's CARD OF 'skeplaw07.GridAll'. -/
def gridAllUptoCard : Claim7 := { stood := { row := gridAllUptoRow, standIns := [], harness := (true, "559c2526e9d685b95d90413c43c19b70e114602596f01004f26ccc6a21ba4032"), looks := false }, kinds := [], alts := [], laidByText := true, laidKinds := [.data], laidTests := true, laidLooks := .later }
def GridAllUptoCardSaid : Prop := Claim7.holds Tryd.pinned (.plain (OpenSpec.upto gridAllSpec)) gridAllUptoCard

/-- THE SECOND FORM's CARD OF 'skeplaw07.GridMay'. -/
def gridMayUptoCard : Claim7 := { stood := { row := gridMayUptoRow, standIns := [], harness := (true, "559c2526e9d685b95d90413c43c19b70e114602596f01004f26ccc6a21ba4032"), looks := false }, kinds := [], alts := [], laidByText := true, laidKinds := [.data], laidTests := true, laidLooks := .later }
def GridMayUptoCardSaid : Prop := Claim7.holds Tryd.pinned (.plain (OpenSpec.upto gridMaySpec)) gridMayUptoCard

/-- THE SECOND FORM's CARD OF 'skeplaw07.GridEdges'. -/
def gridEdgesUptoCard : Claim7 := { stood := { row := gridEdgesUptoRow, standIns := [], harness := (true, "559c2526e9d685b95d90413c43c19b70e114602596f01004f26ccc6a21ba4032"), looks := false }, kinds := [], alts := [], laidByText := true, laidKinds := [.data], laidTests := true, laidLooks := .later }
def GridEdgesUptoCardSaid : Prop := Claim7.holds Tryd.pinned (.plain (OpenSpec.upto gridEdgesSpec)) gridEdgesUptoCard

/-- THE SECOND FORM's CARD OF 'skeplaw07.GridCells'. -/
def gridCellsUptoCard : Claim7 := { stood := { row := gridCellsUptoRow, standIns := [], harness := (true, "559c2526e9d685b95d90413c43c19b70e114602596f01004f26ccc6a21ba4032"), looks := false }, kinds := [], alts := [], laidByText := true, laidKinds := [.data], laidTests := true, laidLooks := .later }
def GridCellsUptoCardSaid : Prop := Claim7.holds Tryd.pinned (.plain (OpenSpec.upto gridCellsSpec)) gridCellsUptoCard

/-- THE SECOND FORM's CARD OF 'skeplaw07.GridAway'. -/
def gridAwayUptoCard : Claim7 := { stood := { row := gridAwayUptoRow, standIns := [], harness := (true, "559c2526e9d685b95d90413c43c19b70e114602596f01004f26ccc6a21ba4032"), looks := false }, kinds := [], alts := [], laidByText := true, laidKinds := [.data], laidTests := true, laidLooks := .later }
def GridAwayUptoCardSaid : Prop := Claim7.holds Tryd.pinned (.plain (OpenSpec.upto gridAwaySpec)) gridAwayUptoCard

/-- THE SECOND FORM's CARD OF 'skeplaw07.GridMoves'. -/
def gridMovesUptoCard : Claim7 := { stood := { row := gridMovesUptoRow, standIns := [], harness := (true, "559c2526e9d685b95d90413c43c19b70e114602596f01004f26ccc6a21ba4032"), looks := false }, kinds := [], alts := [], laidByText := true, laidKinds := [.data], laidTests := true, laidLooks := .later }
def GridMovesUptoCardSaid : Prop := Claim7.holds Tryd.pinned (.plain (OpenSpec.upto gridMovesSpec)) gridMovesUptoCard

/-- THE SECOND FORM's CARD OF 'skeplaw07.GridLegal'. -/
def gridLegalUptoCard : Claim7 := { stood := { row := gridLegalUptoRow, standIns := [], harness := (true, "559c2526e9d685b95d90413c43c19b70e114602596f01004f26ccc6a21ba4032"), looks := false }, kinds := [], alts := [], laidByText := true, laidKinds := [.data], laidTests := true, laidLooks := .later }
def GridLegalUptoCardSaid : Prop := Claim7.holds Tryd.pinned (.plain (OpenSpec.upto gridLegalSpec)) gridLegalUptoCard

/-- THE SECOND FORM's CARD OF 'skeplaw07.GridBack'. -/
def gridBackUptoCard : Claim7 := { stood := { row := gridBackUptoRow, standIns := [], harness := (true, "559c2526e9d685b95d90413c43c19b70e114602596f01004f26ccc6a21ba4032"), looks := false }, kinds := [], alts := [], laidByText := true, laidKinds := [.data], laidTests := true, laidLooks := .later }
def GridBackUptoCardSaid : Prop := Claim7.holds Tryd.pinned (.plain (OpenSpec.upto gridBackSpec)) gridBackUptoCard

/-- THE SECOND FORM's CARD OF 'skeplaw07.GridOwn'. -/
def gridOwnUptoCard : Claim7 := { stood := { row := gridOwnUptoRow, standIns := [], harness := (true, "559c2526e9d685b95d90413c43c19b70e114602596f01004f26ccc6a21ba4032"), looks := false }, kinds := [], alts := [], laidByText := true, laidKinds := [.data], laidTests := true, laidLooks := .later }
def GridOwnUptoCardSaid : Prop := Claim7.holds Tryd.pinned (.plain (OpenSpec.upto gridOwnSpec)) gridOwnUptoCard

/-- THE SECOND FORM's CARD OF 'skeplaw07.GridSteps'. -/
def gridStepsUptoCard : Claim7 := { stood := { row := gridStepsUptoRow, standIns := [], harness := (true, "559c2526e9d685b95d90413c43c19b70e114602596f01004f26ccc6a21ba4032"), looks := false }, kinds := [], alts := [], laidByText := true, laidKinds := [.data], laidTests := true, laidLooks := .later }
def GridStepsUptoCardSaid : Prop := Claim7.holds Tryd.pinned (.plain (OpenSpec.upto gridStepsSpec)) gridStepsUptoCard
end Rows
end Go.Proofs.YtnpdploihlgcgaaDoor
