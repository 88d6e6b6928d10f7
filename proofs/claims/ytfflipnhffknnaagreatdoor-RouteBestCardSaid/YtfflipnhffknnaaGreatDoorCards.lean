/-
  DERIVED. GIVEN WITH THE SEED: THE CARDS: each row of YtfflipnhffknnaaGreatDoorRows.lean that lists a variable, with what it lists TIED to the program's text (the seventh form; the later family's looks); each row that meets fmt, with fmt's text TOLD by the authors' own Lean function (tested against real Go, not proved from fmt's source: count such statements apart). THE CARD IS WHAT COUNTS. Prove the row's statement (the work); the ties are given (YtfflipnhffknnaaGreatDoorTie.lean); close each card by the builder's one call (the guide's Derived/Test/ToyasCard.lean, 'card_holds'). Laid BY PROGRAM, IN A SANDBOX (cutbox-door.mjs). By AI agents, Wed Nov 11 2026. No macro, syntax, notation, axiom, sorry.
-/
import Derived.Test.YtfflipnhffknnaaGreatDoorRows
import GoSem.ClaimSeven
namespace Go.Proofs.YtfflipnhffknnaaGreatDoor
namespace Rows

/-- THE TIED CARD OF 'skeplaw12.RouteArgs'. -/
def routeArgsCard : Claim7 := { stood := { row := routeArgsRow, standIns := [], harness := (true, "a88b1d9fe9f5d1385b16150ec9349171fc4538417ed9695b8ad811efedf37785"), looks := false }, kinds := [], alts := [], laidByText := true, laidKinds := [.data], laidTests := true, laidLooks := .later }
def RouteArgsCardSaid : Prop := Claim7.holds Tryz.pinned (.plain (OpenSpec.ofChange routeArgsSpec)) routeArgsCard

/-- THE TIED CARD OF 'skeplaw12.RouteLater'. -/
def routeLaterCard : Claim7 := { stood := { row := routeLaterRow, standIns := [], harness := (true, "a88b1d9fe9f5d1385b16150ec9349171fc4538417ed9695b8ad811efedf37785"), looks := false }, kinds := [], alts := [], laidByText := true, laidKinds := [.data], laidTests := true, laidLooks := .later }
def RouteLaterCardSaid : Prop := Claim7.holds Tryz.pinned (.plain (OpenSpec.ofChange routeLaterSpec)) routeLaterCard

/-- THE TIED CARD OF 'skeplaw12.RouteTimes'. -/
def routeTimesCard : Claim7 := { stood := { row := routeTimesRow, standIns := [], harness := (true, "a88b1d9fe9f5d1385b16150ec9349171fc4538417ed9695b8ad811efedf37785"), looks := false }, kinds := [], alts := [], laidByText := true, laidKinds := [.data], laidTests := true, laidLooks := .later }
def RouteTimesCardSaid : Prop := Claim7.holds Tryz.pinned (.plain (OpenSpec.ofChange routeTimesSpec)) routeTimesCard

/-- THE TIED CARD OF 'skeplaw12.RouteThere'. -/
def routeThereCard : Claim7 := { stood := { row := routeThereRow, standIns := [], harness := (true, "a88b1d9fe9f5d1385b16150ec9349171fc4538417ed9695b8ad811efedf37785"), looks := false }, kinds := [], alts := [], laidByText := true, laidKinds := [.data], laidTests := true, laidLooks := .later }
def RouteThereCardSaid : Prop := Claim7.holds Tryz.pinned (.plain (OpenSpec.ofChange routeThereSpec)) routeThereCard

/-- THE TIED CARD OF 'skeplaw13.PlanBegins'. -/
def planBeginsCard : Claim7 := { stood := { row := planBeginsRow, standIns := [], harness := (true, "a88b1d9fe9f5d1385b16150ec9349171fc4538417ed9695b8ad811efedf37785"), looks := false }, kinds := [], alts := [], laidByText := true, laidKinds := [.data], laidTests := true, laidLooks := .later }
def PlanBeginsCardSaid : Prop := Claim7.holds Tryz.pinned (.plain (OpenSpec.ofChange planBeginsSpec)) planBeginsCard

/-- THE TIED CARD OF 'skeplaw13.PlanRight'. -/
def planRightCard : Claim7 := { stood := { row := planRightRow, standIns := [], harness := (true, "a88b1d9fe9f5d1385b16150ec9349171fc4538417ed9695b8ad811efedf37785"), looks := false }, kinds := [], alts := [], laidByText := true, laidKinds := [.data], laidTests := true, laidLooks := .later }
def PlanRightCardSaid : Prop := Claim7.holds Tryz.pinned (.plain (OpenSpec.ofChange planRightSpec)) planRightCard

/-- THE TIED CARD OF 'skeplaw13.PlanTurns'. -/
def planTurnsCard : Claim7 := { stood := { row := planTurnsRow, standIns := [], harness := (true, "a88b1d9fe9f5d1385b16150ec9349171fc4538417ed9695b8ad811efedf37785"), looks := false }, kinds := [], alts := [], laidByText := true, laidKinds := [.data], laidTests := true, laidLooks := .later }
def PlanTurnsCardSaid : Prop := Claim7.holds Tryz.pinned (.plain (OpenSpec.ofChange planTurnsSpec)) planTurnsCard

/-- THE TIED CARD OF 'skeplaw13.PlanStands'. -/
def planStandsCard : Claim7 := { stood := { row := planStandsRow, standIns := [], harness := (true, "a88b1d9fe9f5d1385b16150ec9349171fc4538417ed9695b8ad811efedf37785"), looks := false }, kinds := [], alts := [], laidByText := true, laidKinds := [.data], laidTests := true, laidLooks := .later }
def PlanStandsCardSaid : Prop := Claim7.holds Tryz.pinned (.plain (OpenSpec.ofChange planStandsSpec)) planStandsCard

/-- THE TIED CARD OF 'skeplaw12.RouteFinds'. -/
def routeFindsCard : Claim7 := { stood := { row := routeFindsRow, standIns := [], harness := (true, "a88b1d9fe9f5d1385b16150ec9349171fc4538417ed9695b8ad811efedf37785"), looks := false }, kinds := [], alts := [], laidByText := true, laidKinds := [.data], laidTests := true, laidLooks := .later }
def RouteFindsCardSaid : Prop := Claim7.holds Tryz.pinned (.plain (OpenSpec.ofChange routeFindsSpec)) routeFindsCard

/-- THE TIED CARD OF 'skeplaw12.RouteRight'. -/
def routeRightCard : Claim7 := { stood := { row := routeRightRow, standIns := [], harness := (true, "a88b1d9fe9f5d1385b16150ec9349171fc4538417ed9695b8ad811efedf37785"), looks := false }, kinds := [], alts := [], laidByText := true, laidKinds := [.data], laidTests := true, laidLooks := .later }
def RouteRightCardSaid : Prop := Claim7.holds Tryz.pinned (.plain (OpenSpec.ofChange routeRightSpec)) routeRightCard

/-- THE TIED CARD OF 'skeplaw12.RouteBest'. -/
def routeBestCard : Claim7 := { stood := { row := routeBestRow, standIns := [], harness := (true, "a88b1d9fe9f5d1385b16150ec9349171fc4538417ed9695b8ad811efedf37785"), looks := false }, kinds := [], alts := [], laidByText := true, laidKinds := [.data], laidTests := true, laidLooks := .later }
def RouteBestCardSaid : Prop := Claim7.holds Tryz.pinned (.plain (OpenSpec.ofChange routeBestSpec)) routeBestCard

/-- THE TIED CARD OF 'skeplaw12.RouteBudget'. -/
def routeBudgetCard : Claim7 := { stood := { row := routeBudgetRow, standIns := [], harness := (true, "a88b1d9fe9f5d1385b16150ec9349171fc4538417ed9695b8ad811efedf37785"), looks := false }, kinds := [], alts := [], laidByText := true, laidKinds := [.data], laidTests := true, laidLooks := .later }
def RouteBudgetCardSaid : Prop := Claim7.holds Tryz.pinned (.plain (OpenSpec.ofChange routeBudgetSpec)) routeBudgetCard

/-- THE TIED CARD OF 'skeplaw12.RouteAround'. -/
def routeAroundCard : Claim7 := { stood := { row := routeAroundRow, standIns := [], harness := (true, "a88b1d9fe9f5d1385b16150ec9349171fc4538417ed9695b8ad811efedf37785"), looks := false }, kinds := [], alts := [], laidByText := true, laidKinds := [.data], laidTests := true, laidLooks := .later }
def RouteAroundCardSaid : Prop := Claim7.holds Tryz.pinned (.plain (OpenSpec.ofChange routeAroundSpec)) routeAroundCard

/-- THE TIED CARD OF 'skeplaw12.RouteAlone'. -/
def routeAloneCard : Claim7 := { stood := { row := routeAloneRow, standIns := [], harness := (true, "a88b1d9fe9f5d1385b16150ec9349171fc4538417ed9695b8ad811efedf37785"), looks := false }, kinds := [], alts := [], laidByText := true, laidKinds := [.data], laidTests := true, laidLooks := .later }
def RouteAloneCardSaid : Prop := Claim7.holds Tryz.pinned (.plain (OpenSpec.ofChange routeAloneSpec)) routeAloneCard

/-- THE TIED CARD OF 'skeplaw12.RouteFree'. -/
def routeFreeCard : Claim7 := { stood := { row := routeFreeRow, standIns := [], harness := (true, "a88b1d9fe9f5d1385b16150ec9349171fc4538417ed9695b8ad811efedf37785"), looks := false }, kinds := [], alts := [], laidByText := true, laidKinds := [.data], laidTests := true, laidLooks := .later }
def RouteFreeCardSaid : Prop := Claim7.holds Tryz.pinned (.plain (OpenSpec.ofChange routeFreeSpec)) routeFreeCard

/-- THE TIED CARD OF 'skeplaw13.PlanRounds'. -/
def planRoundsCard : Claim7 := { stood := { row := planRoundsRow, standIns := [], harness := (true, "a88b1d9fe9f5d1385b16150ec9349171fc4538417ed9695b8ad811efedf37785"), looks := false }, kinds := [], alts := [], laidByText := true, laidKinds := [.data], laidTests := true, laidLooks := .later }
def PlanRoundsCardSaid : Prop := Claim7.holds Tryz.pinned (.plain (OpenSpec.ofChange planRoundsSpec)) planRoundsCard

/-- THE TIED CARD OF 'skeplaw13.PlanRounded'. -/
def planRoundedCard : Claim7 := { stood := { row := planRoundedRow, standIns := [], harness := (true, "a88b1d9fe9f5d1385b16150ec9349171fc4538417ed9695b8ad811efedf37785"), looks := false }, kinds := [], alts := [], laidByText := true, laidKinds := [.data], laidTests := true, laidLooks := .later }
def PlanRoundedCardSaid : Prop := Claim7.holds Tryz.pinned (.plain (OpenSpec.ofChange planRoundedSpec)) planRoundedCard

/-- THE TIED CARD OF 'skeplaw13.PlanHolds'. -/
def planHoldsCard : Claim7 := { stood := { row := planHoldsRow, standIns := [], harness := (true, "a88b1d9fe9f5d1385b16150ec9349171fc4538417ed9695b8ad811efedf37785"), looks := false }, kinds := [], alts := [], laidByText := true, laidKinds := [.data], laidTests := true, laidLooks := .later }
def PlanHoldsCardSaid : Prop := Claim7.holds Tryz.pinned (.plain (OpenSpec.ofChange planHoldsSpec)) planHoldsCard

/-- THE SECOND FORM's CARD OF 'skeplaw12.RouteArgs'. -/
def routeArgsUptoCard : Claim7 := { stood := { row := routeArgsUptoRow, standIns := [], harness := (true, "a88b1d9fe9f5d1385b16150ec9349171fc4538417ed9695b8ad811efedf37785"), looks := false }, kinds := [], alts := [], laidByText := true, laidKinds := [.data], laidTests := true, laidLooks := .later }
def RouteArgsUptoCardSaid : Prop := Claim7.holds Tryz.pinned (.plain (OpenSpec.upto routeArgsSpec)) routeArgsUptoCard

/-- THE SECOND FORM's CARD OF 'skeplaw12.RouteLater'. -/
def routeLaterUptoCard : Claim7 := { stood := { row := routeLaterUptoRow, standIns := [], harness := (true, "a88b1d9fe9f5d1385b16150ec9349171fc4538417ed9695b8ad811efedf37785"), looks := false }, kinds := [], alts := [], laidByText := true, laidKinds := [.data], laidTests := true, laidLooks := .later }
def RouteLaterUptoCardSaid : Prop := Claim7.holds Tryz.pinned (.plain (OpenSpec.upto routeLaterSpec)) routeLaterUptoCard

/-- THE SECOND FORM's CARD OF 'skeplaw12.RouteTimes'. -/
def routeTimesUptoCard : Claim7 := { stood := { row := routeTimesUptoRow, standIns := [], harness := (true, "a88b1d9fe9f5d1385b16150ec9349171fc4538417ed9695b8ad811efedf37785"), looks := false }, kinds := [], alts := [], laidByText := true, laidKinds := [.data], laidTests := true, laidLooks := .later }
def RouteTimesUptoCardSaid : Prop := Claim7.holds Tryz.pinned (.plain (OpenSpec.upto routeTimesSpec)) routeTimesUptoCard

/-- THE SECOND FORM's CARD OF 'skeplaw12.RouteThere'. -/
def routeThereUptoCard : Claim7 := { stood := { row := routeThereUptoRow, standIns := [], harness := (true, "a88b1d9fe9f5d1385b16150ec9349171fc4538417ed9695b8ad811efedf37785"), looks := false }, kinds := [], alts := [], laidByText := true, laidKinds := [.data], laidTests := true, laidLooks := .later }
def RouteThereUptoCardSaid : Prop := Claim7.holds Tryz.pinned (.plain (OpenSpec.upto routeThereSpec)) routeThereUptoCard

/-- THE SECOND FORM's CARD OF 'skeplaw13.PlanBegins'. -/
def planBeginsUptoCard : Claim7 := { stood := { row := planBeginsUptoRow, standIns := [], harness := (true, "a88b1d9fe9f5d1385b16150ec9349171fc4538417ed9695b8ad811efedf37785"), looks := false }, kinds := [], alts := [], laidByText := true, laidKinds := [.data], laidTests := true, laidLooks := .later }
def PlanBeginsUptoCardSaid : Prop := Claim7.holds Tryz.pinned (.plain (OpenSpec.upto planBeginsSpec)) planBeginsUptoCard

/-- THE SECOND FORM's CARD OF 'skeplaw13.PlanRight'. -/
def planRightUptoCard : Claim7 := { stood := { row := planRightUptoRow, standIns := [], harness := (true, "a88b1d9fe9f5d1385b16150ec9349171fc4538417ed9695b8ad811efedf37785"), looks := false }, kinds := [], alts := [], laidByText := true, laidKinds := [.data], laidTests := true, laidLooks := .later }
def PlanRightUptoCardSaid : Prop := Claim7.holds Tryz.pinned (.plain (OpenSpec.upto planRightSpec)) planRightUptoCard

/-- THE SECOND FORM's CARD OF 'skeplaw13.PlanTurns'. -/
def planTurnsUptoCard : Claim7 := { stood := { row := planTurnsUptoRow, standIns := [], harness := (true, "a88b1d9fe9f5d1385b16150ec9349171fc4538417ed9695b8ad811efedf37785"), looks := false }, kinds := [], alts := [], laidByText := true, laidKinds := [.data], laidTests := true, laidLooks := .later }
def PlanTurnsUptoCardSaid : Prop := Claim7.holds Tryz.pinned (.plain (OpenSpec.upto planTurnsSpec)) planTurnsUptoCard

/-- THE SECOND FORM's CARD OF 'skeplaw13.PlanStands'. -/
def planStandsUptoCard : Claim7 := { stood := { row := planStandsUptoRow, standIns := [], harness := (true, "a88b1d9fe9f5d1385b16150ec9349171fc4538417ed9695b8ad811efedf37785"), looks := false }, kinds := [], alts := [], laidByText := true, laidKinds := [.data], laidTests := true, laidLooks := .later }
def PlanStandsUptoCardSaid : Prop := Claim7.holds Tryz.pinned (.plain (OpenSpec.upto planStandsSpec)) planStandsUptoCard

/-- THE SECOND FORM's CARD OF 'skeplaw12.RouteFinds'. -/
def routeFindsUptoCard : Claim7 := { stood := { row := routeFindsUptoRow, standIns := [], harness := (true, "a88b1d9fe9f5d1385b16150ec9349171fc4538417ed9695b8ad811efedf37785"), looks := false }, kinds := [], alts := [], laidByText := true, laidKinds := [.data], laidTests := true, laidLooks := .later }
def RouteFindsUptoCardSaid : Prop := Claim7.holds Tryz.pinned (.plain (OpenSpec.upto routeFindsSpec)) routeFindsUptoCard

/-- THE SECOND FORM's CARD OF 'skeplaw12.RouteRight'. -/
def routeRightUptoCard : Claim7 := { stood := { row := routeRightUptoRow, standIns := [], harness := (true, "a88b1d9fe9f5d1385b16150ec9349171fc4538417ed9695b8ad811efedf37785"), looks := false }, kinds := [], alts := [], laidByText := true, laidKinds := [.data], laidTests := true, laidLooks := .later }
def RouteRightUptoCardSaid : Prop := Claim7.holds Tryz.pinned (.plain (OpenSpec.upto routeRightSpec)) routeRightUptoCard

/-- THE SECOND FORM's CARD OF 'skeplaw12.RouteBest'. -/
def routeBestUptoCard : Claim7 := { stood := { row := routeBestUptoRow, standIns := [], harness := (true, "a88b1d9fe9f5d1385b16150ec9349171fc4538417ed9695b8ad811efedf37785"), looks := false }, kinds := [], alts := [], laidByText := true, laidKinds := [.data], laidTests := true, laidLooks := .later }
def RouteBestUptoCardSaid : Prop := Claim7.holds Tryz.pinned (.plain (OpenSpec.upto routeBestSpec)) routeBestUptoCard

/-- THE SECOND FORM's CARD OF 'skeplaw12.RouteBudget'. -/
def routeBudgetUptoCard : Claim7 := { stood := { row := routeBudgetUptoRow, standIns := [], harness := (true, "a88b1d9fe9f5d1385b16150ec9349171fc4538417ed9695b8ad811efedf37785"), looks := false }, kinds := [], alts := [], laidByText := true, laidKinds := [.data], laidTests := true, laidLooks := .later }
def RouteBudgetUptoCardSaid : Prop := Claim7.holds Tryz.pinned (.plain (OpenSpec.upto routeBudgetSpec)) routeBudgetUptoCard

/-- THE SECOND FORM's CARD OF 'skeplaw12.RouteAround'. -/
def routeAroundUptoCard : Claim7 := { stood := { row := routeAroundUptoRow, standIns := [], harness := (true, "a88b1d9fe9f5d1385b16150ec9349171fc4538417ed9695b8ad811efedf37785"), looks := false }, kinds := [], alts := [], laidByText := true, laidKinds := [.data], laidTests := true, laidLooks := .later }
def RouteAroundUptoCardSaid : Prop := Claim7.holds Tryz.pinned (.plain (OpenSpec.upto routeAroundSpec)) routeAroundUptoCard

/-- THE SECOND FORM's CARD OF 'skeplaw12.RouteAlone'. -/
def routeAloneUptoCard : Claim7 := { stood := { row := routeAloneUptoRow, standIns := [], harness := (true, "a88b1d9fe9f5d1385b16150ec9349171fc4538417ed9695b8ad811efedf37785"), looks := false }, kinds := [], alts := [], laidByText := true, laidKinds := [.data], laidTests := true, laidLooks := .later }
def RouteAloneUptoCardSaid : Prop := Claim7.holds Tryz.pinned (.plain (OpenSpec.upto routeAloneSpec)) routeAloneUptoCard

/-- THE SECOND FORM's CARD OF 'skeplaw12.RouteFree'. -/
def routeFreeUptoCard : Claim7 := { stood := { row := routeFreeUptoRow, standIns := [], harness := (true, "a88b1d9fe9f5d1385b16150ec9349171fc4538417ed9695b8ad811efedf37785"), looks := false }, kinds := [], alts := [], laidByText := true, laidKinds := [.data], laidTests := true, laidLooks := .later }
def RouteFreeUptoCardSaid : Prop := Claim7.holds Tryz.pinned (.plain (OpenSpec.upto routeFreeSpec)) routeFreeUptoCard

/-- THE SECOND FORM's CARD OF 'skeplaw13.PlanRounds'. -/
def planRoundsUptoCard : Claim7 := { stood := { row := planRoundsUptoRow, standIns := [], harness := (true, "a88b1d9fe9f5d1385b16150ec9349171fc4538417ed9695b8ad811efedf37785"), looks := false }, kinds := [], alts := [], laidByText := true, laidKinds := [.data], laidTests := true, laidLooks := .later }
def PlanRoundsUptoCardSaid : Prop := Claim7.holds Tryz.pinned (.plain (OpenSpec.upto planRoundsSpec)) planRoundsUptoCard

/-- THE SECOND FORM's CARD OF 'skeplaw13.PlanRounded'. -/
def planRoundedUptoCard : Claim7 := { stood := { row := planRoundedUptoRow, standIns := [], harness := (true, "a88b1d9fe9f5d1385b16150ec9349171fc4538417ed9695b8ad811efedf37785"), looks := false }, kinds := [], alts := [], laidByText := true, laidKinds := [.data], laidTests := true, laidLooks := .later }
def PlanRoundedUptoCardSaid : Prop := Claim7.holds Tryz.pinned (.plain (OpenSpec.upto planRoundedSpec)) planRoundedUptoCard

/-- THE SECOND FORM's CARD OF 'skeplaw13.PlanHolds'. -/
def planHoldsUptoCard : Claim7 := { stood := { row := planHoldsUptoRow, standIns := [], harness := (true, "a88b1d9fe9f5d1385b16150ec9349171fc4538417ed9695b8ad811efedf37785"), looks := false }, kinds := [], alts := [], laidByText := true, laidKinds := [.data], laidTests := true, laidLooks := .later }
def PlanHoldsUptoCardSaid : Prop := Claim7.holds Tryz.pinned (.plain (OpenSpec.upto planHoldsSpec)) planHoldsUptoCard
end Rows
end Go.Proofs.YtfflipnhffknnaaGreatDoor
