/-
  DERIVED. GIVEN WITH THE SEED: THE CARDS: each row of YtangejiigopdaaaDoorRows.lean that lists a variable, with what it lists TIED to the program's text (the seventh form; the later family's looks); each row that meets fmt, with fmt's text TOLD by the authors' own Lean function (tested against real Go, not proved from fmt's source: count such statements apart). THE CARD IS WHAT COUNTS. Prove the row's statement (the work); the ties are given (YtangejiigopdaaaDoorTie.lean); close each card by the builder's one call (the guide's Derived/Test/ToyasCard.lean, 'card_holds'). Laid BY PROGRAM, IN A SANDBOX (cutbox-door.mjs). By AI agents, Wed Nov 11 2026. No macro, syntax, notation, axiom, sorry.
-/
import Derived.Test.YtangejiigopdaaaDoorRows
import GoSem.ClaimSeven
namespace Go.Proofs.YtangejiigopdaaaDoor
namespace Rows

/-- THE TIED CARD OF 'skeplaw14.DigJobs'. -/
def digJobsCard : Claim7 := { stood := { row := digJobsRow, standIns := [], harness := (true, "85a9d47646e33f1d3eb187163dc4ce6a33aa159680433ed612f31c97fb810b3c"), looks := false }, kinds := [], alts := [], laidByText := true, laidKinds := [.data], laidTests := true, laidLooks := .later }
def DigJobsCardSaid : Prop := Claim7.holds Tryd.pinned (.plain (OpenSpec.ofChange digJobsSpec)) digJobsCard

/-- THE TIED CARD OF 'skeplaw14.DigDone'. -/
def digDoneCard : Claim7 := { stood := { row := digDoneRow, standIns := [], harness := (true, "85a9d47646e33f1d3eb187163dc4ce6a33aa159680433ed612f31c97fb810b3c"), looks := false }, kinds := [], alts := [], laidByText := true, laidKinds := [.data], laidTests := true, laidLooks := .later }
def DigDoneCardSaid : Prop := Claim7.holds Tryd.pinned (.plain (OpenSpec.ofChange digDoneSpec)) digDoneCard

/-- THE TIED CARD OF 'skeplaw14.DigRefuses'. -/
def digRefusesCard : Claim7 := { stood := { row := digRefusesRow, standIns := [], harness := (true, "85a9d47646e33f1d3eb187163dc4ce6a33aa159680433ed612f31c97fb810b3c"), looks := false }, kinds := [], alts := [], laidByText := true, laidKinds := [.data], laidTests := true, laidLooks := .later }
def DigRefusesCardSaid : Prop := Claim7.holds Tryd.pinned (.plain (OpenSpec.ofChange digRefusesSpec)) digRefusesCard

/-- THE TIED CARD OF 'skeplaw14.DigRows'. -/
def digRowsCard : Claim7 := { stood := { row := digRowsRow, standIns := [], harness := (true, "85a9d47646e33f1d3eb187163dc4ce6a33aa159680433ed612f31c97fb810b3c"), looks := false }, kinds := [], alts := [], laidByText := true, laidKinds := [.data], laidTests := true, laidLooks := .later }
def DigRowsCardSaid : Prop := Claim7.holds Tryd.pinned (.plain (OpenSpec.ofChange digRowsSpec)) digRowsCard

/-- THE TIED CARD OF 'skeplaw14.DigPlaces'. -/
def digPlacesCard : Claim7 := { stood := { row := digPlacesRow, standIns := [], harness := (true, "85a9d47646e33f1d3eb187163dc4ce6a33aa159680433ed612f31c97fb810b3c"), looks := false }, kinds := [], alts := [], laidByText := true, laidKinds := [.data], laidTests := true, laidLooks := .later }
def DigPlacesCardSaid : Prop := Claim7.holds Tryd.pinned (.plain (OpenSpec.ofChange digPlacesSpec)) digPlacesCard

/-- THE TIED CARD OF 'skeplaw14.DigNear'. -/
def digNearCard : Claim7 := { stood := { row := digNearRow, standIns := [], harness := (true, "85a9d47646e33f1d3eb187163dc4ce6a33aa159680433ed612f31c97fb810b3c"), looks := false }, kinds := [], alts := [], laidByText := true, laidKinds := [.data], laidTests := true, laidLooks := .later }
def DigNearCardSaid : Prop := Claim7.holds Tryd.pinned (.plain (OpenSpec.ofChange digNearSpec)) digNearCard

/-- THE TIED CARD OF 'skeplaw14.DigMore'. -/
def digMoreCard : Claim7 := { stood := { row := digMoreRow, standIns := [], harness := (true, "85a9d47646e33f1d3eb187163dc4ce6a33aa159680433ed612f31c97fb810b3c"), looks := false }, kinds := [], alts := [], laidByText := true, laidKinds := [.data], laidTests := true, laidLooks := .later }
def DigMoreCardSaid : Prop := Claim7.holds Tryd.pinned (.plain (OpenSpec.ofChange digMoreSpec)) digMoreCard

/-- THE SECOND FORM's CARD OF 'skeplaw14.DigJobs'. -/
def digJobsUptoCard : Claim7 := { stood := { row := digJobsUptoRow, standIns := [], harness := (true, "85a9d47646e33f1d3eb187163dc4ce6a33aa159680433ed612f31c97fb810b3c"), looks := false }, kinds := [], alts := [], laidByText := true, laidKinds := [.data], laidTests := true, laidLooks := .later }
def DigJobsUptoCardSaid : Prop := Claim7.holds Tryd.pinned (.plain (OpenSpec.upto digJobsSpec)) digJobsUptoCard

/-- THE SECOND FORM's CARD OF 'skeplaw14.DigDone'. -/
def digDoneUptoCard : Claim7 := { stood := { row := digDoneUptoRow, standIns := [], harness := (true, "85a9d47646e33f1d3eb187163dc4ce6a33aa159680433ed612f31c97fb810b3c"), looks := false }, kinds := [], alts := [], laidByText := true, laidKinds := [.data], laidTests := true, laidLooks := .later }
def DigDoneUptoCardSaid : Prop := Claim7.holds Tryd.pinned (.plain (OpenSpec.upto digDoneSpec)) digDoneUptoCard

/-- THE SECOND FORM's CARD OF 'skeplaw14.DigRefuses'. -/
def digRefusesUptoCard : Claim7 := { stood := { row := digRefusesUptoRow, standIns := [], harness := (true, "85a9d47646e33f1d3eb187163dc4ce6a33aa159680433ed612f31c97fb810b3c"), looks := false }, kinds := [], alts := [], laidByText := true, laidKinds := [.data], laidTests := true, laidLooks := .later }
def DigRefusesUptoCardSaid : Prop := Claim7.holds Tryd.pinned (.plain (OpenSpec.upto digRefusesSpec)) digRefusesUptoCard

/-- THE SECOND FORM's CARD OF 'skeplaw14.DigRows'. -/
def digRowsUptoCard : Claim7 := { stood := { row := digRowsUptoRow, standIns := [], harness := (true, "85a9d47646e33f1d3eb187163dc4ce6a33aa159680433ed612f31c97fb810b3c"), looks := false }, kinds := [], alts := [], laidByText := true, laidKinds := [.data], laidTests := true, laidLooks := .later }
def DigRowsUptoCardSaid : Prop := Claim7.holds Tryd.pinned (.plain (OpenSpec.upto digRowsSpec)) digRowsUptoCard

/-- THE SECOND FORM's CARD OF 'skeplaw14.DigPlaces'. -/
def digPlacesUptoCard : Claim7 := { stood := { row := digPlacesUptoRow, standIns := [], harness := (true, "85a9d47646e33f1d3eb187163dc4ce6a33aa159680433ed612f31c97fb810b3c"), looks := false }, kinds := [], alts := [], laidByText := true, laidKinds := [.data], laidTests := true, laidLooks := .later }
def DigPlacesUptoCardSaid : Prop := Claim7.holds Tryd.pinned (.plain (OpenSpec.upto digPlacesSpec)) digPlacesUptoCard

/-- THE SECOND FORM's CARD OF 'skeplaw14.DigNear'. -/
def digNearUptoCard : Claim7 := { stood := { row := digNearUptoRow, standIns := [], harness := (true, "85a9d47646e33f1d3eb187163dc4ce6a33aa159680433ed612f31c97fb810b3c"), looks := false }, kinds := [], alts := [], laidByText := true, laidKinds := [.data], laidTests := true, laidLooks := .later }
def DigNearUptoCardSaid : Prop := Claim7.holds Tryd.pinned (.plain (OpenSpec.upto digNearSpec)) digNearUptoCard

/-- THE SECOND FORM's CARD OF 'skeplaw14.DigMore'. -/
def digMoreUptoCard : Claim7 := { stood := { row := digMoreUptoRow, standIns := [], harness := (true, "85a9d47646e33f1d3eb187163dc4ce6a33aa159680433ed612f31c97fb810b3c"), looks := false }, kinds := [], alts := [], laidByText := true, laidKinds := [.data], laidTests := true, laidLooks := .later }
def DigMoreUptoCardSaid : Prop := Claim7.holds Tryd.pinned (.plain (OpenSpec.upto digMoreSpec)) digMoreUptoCard
end Rows
end Go.Proofs.YtangejiigopdaaaDoor
