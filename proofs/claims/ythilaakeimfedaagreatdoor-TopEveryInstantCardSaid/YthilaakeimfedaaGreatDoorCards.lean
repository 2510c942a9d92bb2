/-
  DERIVED. GIVEN WITH THE SEED: THE CARDS: each row of YthilaakeimfedaaGreatDoorRows.lean that lists a variable, with what it lists TIED to the program's text (the seventh form; the later family's looks); each row that meets fmt, with fmt's text TOLD by the authors' own Lean function (tested against real Go, not proved from fmt's source: count such statements apart). THE CARD IS WHAT COUNTS. Prove the row's statement (the work); the ties are given (YthilaakeimfedaaGreatDoorTie.lean); close each card by the builder's one call (the guide's Derived/Test/ToyasCard.lean, 'card_holds'). Laid BY PROGRAM, IN A SANDBOX (cutbox-door.mjs). By AI agents, Wed Nov 11 2026. No macro, syntax, notation, axiom, sorry.
-/
import Derived.Test.YthilaakeimfedaaGreatDoorRows
import GoSem.ClaimSeven
namespace Go.Proofs.YthilaakeimfedaaGreatDoor
namespace Rows

/-- THE TIED CARD OF 'shotlinelaw04.AscentStays'. -/
def ascentStaysCard : Claim7 := { stood := { row := ascentStaysRow, standIns := [], harness := (true, "71367f4720978668b00b8a06985557f095b0fe4941f4e6351d72b5d03c0aa764"), looks := true }, kinds := [], alts := [], laidByText := true, laidKinds := [.data, .data, .data], laidTests := true, laidLooks := .later }
def AscentStaysCardSaid : Prop := Claim7.holds Tryz.pinned (.plain (OpenSpec.ofChange ascentStaysSpec)) ascentStaysCard

/-- THE TIED CARD OF 'shotlinelaw04.AscentTasks'. -/
def ascentTasksCard : Claim7 := { stood := { row := ascentTasksRow, standIns := [], harness := (true, "71367f4720978668b00b8a06985557f095b0fe4941f4e6351d72b5d03c0aa764"), looks := true }, kinds := [], alts := [], laidByText := true, laidKinds := [.data, .data, .data], laidTests := true, laidLooks := .later }
def AscentTasksCardSaid : Prop := Claim7.holds Tryz.pinned (.plain (OpenSpec.ofChange ascentTasksSpec)) ascentTasksCard

/-- THE TIED CARD OF 'shotlinelaw04.AscentRules'. -/
def ascentRulesCard : Claim7 := { stood := { row := ascentRulesRow, standIns := [], harness := (true, "71367f4720978668b00b8a06985557f095b0fe4941f4e6351d72b5d03c0aa764"), looks := true }, kinds := [], alts := [], laidByText := true, laidKinds := [.data, .data, .data], laidTests := true, laidLooks := .later }
def AscentRulesCardSaid : Prop := Claim7.holds Tryz.pinned (.plain (OpenSpec.ofChange ascentRulesSpec)) ascentRulesCard

/-- THE TIED CARD OF 'shotlinelaw04.AscentLegs'. -/
def ascentLegsCard : Claim7 := { stood := { row := ascentLegsRow, standIns := [], harness := (true, "71367f4720978668b00b8a06985557f095b0fe4941f4e6351d72b5d03c0aa764"), looks := true }, kinds := [], alts := [], laidByText := true, laidKinds := [.data, .data, .data], laidTests := true, laidLooks := .later }
def AscentLegsCardSaid : Prop := Claim7.holds Tryz.pinned (.plain (OpenSpec.ofChange ascentLegsSpec)) ascentLegsCard

/-- THE TIED CARD OF 'shotlinelaw04.AscentDirects'. -/
def ascentDirectsCard : Claim7 := { stood := { row := ascentDirectsRow, standIns := [], harness := (true, "71367f4720978668b00b8a06985557f095b0fe4941f4e6351d72b5d03c0aa764"), looks := true }, kinds := [], alts := [], laidByText := true, laidKinds := [.data, .data, .data], laidTests := true, laidLooks := .later }
def AscentDirectsCardSaid : Prop := Claim7.holds Tryz.pinned (.plain (OpenSpec.ofChange ascentDirectsSpec)) ascentDirectsCard

/-- THE TIED CARD OF 'shotlinelaw04.AscentChecks'. -/
def ascentChecksCard : Claim7 := { stood := { row := ascentChecksRow, standIns := [], harness := (true, "71367f4720978668b00b8a06985557f095b0fe4941f4e6351d72b5d03c0aa764"), looks := true }, kinds := [], alts := [], laidByText := true, laidKinds := [.data, .data, .data], laidTests := true, laidLooks := .later }
def AscentChecksCardSaid : Prop := Claim7.holds Tryz.pinned (.plain (OpenSpec.ofChange ascentChecksSpec)) ascentChecksCard

/-- THE TIED CARD OF 'shotlinelaw04.AscentGenerates'. -/
def ascentGeneratesCard : Claim7 := { stood := { row := ascentGeneratesRow, standIns := [], harness := (true, "71367f4720978668b00b8a06985557f095b0fe4941f4e6351d72b5d03c0aa764"), looks := true }, kinds := [], alts := [], laidByText := true, laidKinds := [.data, .data, .data], laidTests := true, laidLooks := .later }
def AscentGeneratesCardSaid : Prop := Claim7.holds Tryz.pinned (.plain (OpenSpec.ofChange ascentGeneratesSpec)) ascentGeneratesCard

/-- THE TIED CARD OF 'shotlinelaw04.AscentChanges'. -/
def ascentChangesCard : Claim7 := { stood := { row := ascentChangesRow, standIns := [], harness := (true, "71367f4720978668b00b8a06985557f095b0fe4941f4e6351d72b5d03c0aa764"), looks := true }, kinds := [], alts := [], laidByText := true, laidKinds := [.data, .data, .data], laidTests := true, laidLooks := .later }
def AscentChangesCardSaid : Prop := Claim7.holds Tryz.pinned (.plain (OpenSpec.ofChange ascentChangesSpec)) ascentChangesCard

/-- THE TIED CARD OF 'shotlinelaw04.AscentFollows'. -/
def ascentFollowsCard : Claim7 := { stood := { row := ascentFollowsRow, standIns := [], harness := (true, "71367f4720978668b00b8a06985557f095b0fe4941f4e6351d72b5d03c0aa764"), looks := true }, kinds := [], alts := [], laidByText := true, laidKinds := [.data, .data, .data], laidTests := true, laidLooks := .later }
def AscentFollowsCardSaid : Prop := Claim7.holds Tryz.pinned (.plain (OpenSpec.ofChange ascentFollowsSpec)) ascentFollowsCard

/-- THE TIED CARD OF 'shotlinelaw04.AscentNeeded'. -/
def ascentNeededCard : Claim7 := { stood := { row := ascentNeededRow, standIns := [], harness := (true, "71367f4720978668b00b8a06985557f095b0fe4941f4e6351d72b5d03c0aa764"), looks := true }, kinds := [], alts := [], laidByText := true, laidKinds := [.data, .data, .data], laidTests := true, laidLooks := .later }
def AscentNeededCardSaid : Prop := Claim7.holds Tryz.pinned (.plain (OpenSpec.ofChange ascentNeededSpec)) ascentNeededCard

/-- THE TIED CARD OF 'shotlinelaw04.AscentInstants'. -/
def ascentInstantsCard : Claim7 := { stood := { row := ascentInstantsRow, standIns := [], harness := (true, "71367f4720978668b00b8a06985557f095b0fe4941f4e6351d72b5d03c0aa764"), looks := true }, kinds := [], alts := [], laidByText := true, laidKinds := [.data, .data, .data], laidTests := true, laidLooks := .later }
def AscentInstantsCardSaid : Prop := Claim7.holds Tryz.pinned (.plain (OpenSpec.ofChange ascentInstantsSpec)) ascentInstantsCard

/-- THE TIED CARD OF 'shotlinelaw04.AscentBegins'. -/
def ascentBeginsCard : Claim7 := { stood := { row := ascentBeginsRow, standIns := [], harness := (true, "71367f4720978668b00b8a06985557f095b0fe4941f4e6351d72b5d03c0aa764"), looks := true }, kinds := [], alts := [], laidByText := true, laidKinds := [.data, .data, .data], laidTests := true, laidLooks := .later }
def AscentBeginsCardSaid : Prop := Claim7.holds Tryz.pinned (.plain (OpenSpec.ofChange ascentBeginsSpec)) ascentBeginsCard

/-- THE TIED CARD OF 'shotlinelaw04.AscentTexts'. -/
def ascentTextsCard : Claim7 := { stood := { row := ascentTextsRow, standIns := [], harness := (true, "71367f4720978668b00b8a06985557f095b0fe4941f4e6351d72b5d03c0aa764"), looks := true }, kinds := [], alts := [], laidByText := true, laidKinds := [.data, .data, .data, .data, .sentinel, .sentinel, .pinned], laidTests := true, laidLooks := .later }
def AscentTextsCardSaid : Prop := Claim7.holds Tryz.pinned (.plain (OpenSpec.ofChange ascentTextsSpec)) ascentTextsCard

/-- THE TIED CARD OF 'shotlinetop.TopStaysAccepted'. -/
def topStaysAcceptedCard : Claim7 := { stood := { row := topStaysAcceptedRow, standIns := [], harness := (true, "71367f4720978668b00b8a06985557f095b0fe4941f4e6351d72b5d03c0aa764"), looks := true }, kinds := [], alts := [], laidByText := true, laidKinds := [.data, .data, .data], laidTests := true, laidLooks := .later }
def TopStaysAcceptedCardSaid : Prop := Claim7.holds Tryz.pinned (.plain (OpenSpec.ofChange topStaysAcceptedSpec)) topStaysAcceptedCard

/-- THE TIED CARD OF 'shotlinetop.TopRestsAndRepeats'. -/
def topRestsAndRepeatsCard : Claim7 := { stood := { row := topRestsAndRepeatsRow, standIns := [], harness := (true, "71367f4720978668b00b8a06985557f095b0fe4941f4e6351d72b5d03c0aa764"), looks := true }, kinds := [], alts := [], laidByText := true, laidKinds := [.data, .data, .data], laidTests := true, laidLooks := .later }
def TopRestsAndRepeatsCardSaid : Prop := Claim7.holds Tryz.pinned (.plain (OpenSpec.ofChange topRestsAndRepeatsSpec)) topRestsAndRepeatsCard

/-- THE TIED CARD OF 'shotlinetop.TopEveryInstant'. -/
def topEveryInstantCard : Claim7 := { stood := { row := topEveryInstantRow, standIns := [], harness := (true, "71367f4720978668b00b8a06985557f095b0fe4941f4e6351d72b5d03c0aa764"), looks := true }, kinds := [], alts := [], laidByText := true, laidKinds := [.data, .data, .data], laidTests := true, laidLooks := .later }
def TopEveryInstantCardSaid : Prop := Claim7.holds Tryz.pinned (.plain (OpenSpec.ofChange topEveryInstantSpec)) topEveryInstantCard

/-- THE SECOND FORM's CARD OF 'shotlinelaw04.AscentStays'. -/
def ascentStaysUptoCard : Claim7 := { stood := { row := ascentStaysUptoRow, standIns := [], harness := (true, "71367f4720978668b00b8a06985557f095b0fe4941f4e6351d72b5d03c0aa764"), looks := true }, kinds := [], alts := [], laidByText := true, laidKinds := [.data, .data, .data], laidTests := true, laidLooks := .later }
def AscentStaysUptoCardSaid : Prop := Claim7.holds Tryz.pinned (.plain (OpenSpec.upto ascentStaysSpec)) ascentStaysUptoCard

/-- THE SECOND FORM's CARD OF 'shotlinelaw04.AscentTasks'. -/
def ascentTasksUptoCard : Claim7 := { stood := { row := ascentTasksUptoRow, standIns := [], harness := (true, "71367f4720978668b00b8a06985557f095b0fe4941f4e6351d72b5d03c0aa764"), looks := true }, kinds := [], alts := [], laidByText := true, laidKinds := [.data, .data, .data], laidTests := true, laidLooks := .later }
def AscentTasksUptoCardSaid : Prop := Claim7.holds Tryz.pinned (.plain (OpenSpec.upto ascentTasksSpec)) ascentTasksUptoCard

/-- THE SECOND FORM's CARD OF 'shotlinelaw04.AscentRules'. -/
def ascentRulesUptoCard : Claim7 := { stood := { row := ascentRulesUptoRow, standIns := [], harness := (true, "71367f4720978668b00b8a06985557f095b0fe4941f4e6351d72b5d03c0aa764"), looks := true }, kinds := [], alts := [], laidByText := true, laidKinds := [.data, .data, .data], laidTests := true, laidLooks := .later }
def AscentRulesUptoCardSaid : Prop := Claim7.holds Tryz.pinned (.plain (OpenSpec.upto ascentRulesSpec)) ascentRulesUptoCard

/-- THE SECOND FORM's CARD OF 'shotlinelaw04.AscentLegs'. -/
def ascentLegsUptoCard : Claim7 := { stood := { row := ascentLegsUptoRow, standIns := [], harness := (true, "71367f4720978668b00b8a06985557f095b0fe4941f4e6351d72b5d03c0aa764"), looks := true }, kinds := [], alts := [], laidByText := true, laidKinds := [.data, .data, .data], laidTests := true, laidLooks := .later }
def AscentLegsUptoCardSaid : Prop := Claim7.holds Tryz.pinned (.plain (OpenSpec.upto ascentLegsSpec)) ascentLegsUptoCard

/-- THE SECOND FORM's CARD OF 'shotlinelaw04.AscentDirects'. -/
def ascentDirectsUptoCard : Claim7 := { stood := { row := ascentDirectsUptoRow, standIns := [], harness := (true, "71367f4720978668b00b8a06985557f095b0fe4941f4e6351d72b5d03c0aa764"), looks := true }, kinds := [], alts := [], laidByText := true, laidKinds := [.data, .data, .data], laidTests := true, laidLooks := .later }
def AscentDirectsUptoCardSaid : Prop := Claim7.holds Tryz.pinned (.plain (OpenSpec.upto ascentDirectsSpec)) ascentDirectsUptoCard

/-- THE SECOND FORM's CARD OF 'shotlinelaw04.AscentChecks'. -/
def ascentChecksUptoCard : Claim7 := { stood := { row := ascentChecksUptoRow, standIns := [], harness := (true, "71367f4720978668b00b8a06985557f095b0fe4941f4e6351d72b5d03c0aa764"), looks := true }, kinds := [], alts := [], laidByText := true, laidKinds := [.data, .data, .data], laidTests := true, laidLooks := .later }
def AscentChecksUptoCardSaid : Prop := Claim7.holds Tryz.pinned (.plain (OpenSpec.upto ascentChecksSpec)) ascentChecksUptoCard

/-- THE SECOND FORM's CARD OF 'shotlinelaw04.AscentGenerates'. -/
def ascentGeneratesUptoCard : Claim7 := { stood := { row := ascentGeneratesUptoRow, standIns := [], harness := (true, "71367f4720978668b00b8a06985557f095b0fe4941f4e6351d72b5d03c0aa764"), looks := true }, kinds := [], alts := [], laidByText := true, laidKinds := [.data, .data, .data], laidTests := true, laidLooks := .later }
def AscentGeneratesUptoCardSaid : Prop := Claim7.holds Tryz.pinned (.plain (OpenSpec.upto ascentGeneratesSpec)) ascentGeneratesUptoCard

/-- THE SECOND FORM's CARD OF 'shotlinelaw04.AscentChanges'. -/
def ascentChangesUptoCard : Claim7 := { stood := { row := ascentChangesUptoRow, standIns := [], harness := (true, "71367f4720978668b00b8a06985557f095b0fe4941f4e6351d72b5d03c0aa764"), looks := true }, kinds := [], alts := [], laidByText := true, laidKinds := [.data, .data, .data], laidTests := true, laidLooks := .later }
def AscentChangesUptoCardSaid : Prop := Claim7.holds Tryz.pinned (.plain (OpenSpec.upto ascentChangesSpec)) ascentChangesUptoCard

/-- THE SECOND FORM's CARD OF 'shotlinelaw04.AscentFollows'. -/
def ascentFollowsUptoCard : Claim7 := { stood := { row := ascentFollowsUptoRow, standIns := [], harness := (true, "71367f4720978668b00b8a06985557f095b0fe4941f4e6351d72b5d03c0aa764"), looks := true }, kinds := [], alts := [], laidByText := true, laidKinds := [.data, .data, .data], laidTests := true, laidLooks := .later }
def AscentFollowsUptoCardSaid : Prop := Claim7.holds Tryz.pinned (.plain (OpenSpec.upto ascentFollowsSpec)) ascentFollowsUptoCard

/-- THE SECOND FORM's CARD OF 'shotlinelaw04.AscentNeeded'. -/
def ascentNeededUptoCard : Claim7 := { stood := { row := ascentNeededUptoRow, standIns := [], harness := (true, "71367f4720978668b00b8a06985557f095b0fe4941f4e6351d72b5d03c0aa764"), looks := true }, kinds := [], alts := [], laidByText := true, laidKinds := [.data, .data, .data], laidTests := true, laidLooks := .later }
def AscentNeededUptoCardSaid : Prop := Claim7.holds Tryz.pinned (.plain (OpenSpec.upto ascentNeededSpec)) ascentNeededUptoCard

/-- THE SECOND FORM's CARD OF 'shotlinelaw04.AscentInstants'. -/
def ascentInstantsUptoCard : Claim7 := { stood := { row := ascentInstantsUptoRow, standIns := [], harness := (true, "71367f4720978668b00b8a06985557f095b0fe4941f4e6351d72b5d03c0aa764"), looks := true }, kinds := [], alts := [], laidByText := true, laidKinds := [.data, .data, .data], laidTests := true, laidLooks := .later }
def AscentInstantsUptoCardSaid : Prop := Claim7.holds Tryz.pinned (.plain (OpenSpec.upto ascentInstantsSpec)) ascentInstantsUptoCard

/-- THE SECOND FORM's CARD OF 'shotlinelaw04.AscentBegins'. -/
def ascentBeginsUptoCard : Claim7 := { stood := { row := ascentBeginsUptoRow, standIns := [], harness := (true, "71367f4720978668b00b8a06985557f095b0fe4941f4e6351d72b5d03c0aa764"), looks := true }, kinds := [], alts := [], laidByText := true, laidKinds := [.data, .data, .data], laidTests := true, laidLooks := .later }
def AscentBeginsUptoCardSaid : Prop := Claim7.holds Tryz.pinned (.plain (OpenSpec.upto ascentBeginsSpec)) ascentBeginsUptoCard

/-- THE SECOND FORM's CARD OF 'shotlinelaw04.AscentTexts'. -/
def ascentTextsUptoCard : Claim7 := { stood := { row := ascentTextsUptoRow, standIns := [], harness := (true, "71367f4720978668b00b8a06985557f095b0fe4941f4e6351d72b5d03c0aa764"), looks := true }, kinds := [], alts := [], laidByText := true, laidKinds := [.data, .data, .data, .data, .sentinel, .sentinel, .pinned], laidTests := true, laidLooks := .later }
def AscentTextsUptoCardSaid : Prop := Claim7.holds Tryz.pinned (.plain (OpenSpec.upto ascentTextsSpec)) ascentTextsUptoCard

/-- THE SECOND FORM's CARD OF 'shotlinetop.TopStaysAccepted'. -/
def topStaysAcceptedUptoCard : Claim7 := { stood := { row := topStaysAcceptedUptoRow, standIns := [], harness := (true, "71367f4720978668b00b8a06985557f095b0fe4941f4e6351d72b5d03c0aa764"), looks := true }, kinds := [], alts := [], laidByText := true, laidKinds := [.data, .data, .data], laidTests := true, laidLooks := .later }
def TopStaysAcceptedUptoCardSaid : Prop := Claim7.holds Tryz.pinned (.plain (OpenSpec.upto topStaysAcceptedSpec)) topStaysAcceptedUptoCard

/-- THE SECOND FORM's CARD OF 'shotlinetop.TopRestsAndRepeats'. -/
def topRestsAndRepeatsUptoCard : Claim7 := { stood := { row := topRestsAndRepeatsUptoRow, standIns := [], harness := (true, "71367f4720978668b00b8a06985557f095b0fe4941f4e6351d72b5d03c0aa764"), looks := true }, kinds := [], alts := [], laidByText := true, laidKinds := [.data, .data, .data], laidTests := true, laidLooks := .later }
def TopRestsAndRepeatsUptoCardSaid : Prop := Claim7.holds Tryz.pinned (.plain (OpenSpec.upto topRestsAndRepeatsSpec)) topRestsAndRepeatsUptoCard

/-- THE SECOND FORM's CARD OF 'shotlinetop.TopEveryInstant'. -/
def topEveryInstantUptoCard : Claim7 := { stood := { row := topEveryInstantUptoRow, standIns := [], harness := (true, "71367f4720978668b00b8a06985557f095b0fe4941f4e6351d72b5d03c0aa764"), looks := true }, kinds := [], alts := [], laidByText := true, laidKinds := [.data, .data, .data], laidTests := true, laidLooks := .later }
def TopEveryInstantUptoCardSaid : Prop := Claim7.holds Tryz.pinned (.plain (OpenSpec.upto topEveryInstantSpec)) topEveryInstantUptoCard
end Rows
end Go.Proofs.YthilaakeimfedaaGreatDoor
