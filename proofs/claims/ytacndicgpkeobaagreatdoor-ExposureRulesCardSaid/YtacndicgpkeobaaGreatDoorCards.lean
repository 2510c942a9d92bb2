/-
  DERIVED. GIVEN WITH THE SEED: THE CARDS: each row of YtacndicgpkeobaaGreatDoorRows.lean that lists a variable, with what it lists TIED to the program's text (the seventh form; the later family's looks); each row that meets fmt, with fmt's text TOLD by the authors' own Lean function (tested against real Go, not proved from fmt's source: count such statements apart). THE CARD IS WHAT COUNTS. Prove the row's statement (the work); the ties are given (YtacndicgpkeobaaGreatDoorTie.lean); close each card by the builder's one call (the guide's Derived/Test/ToyasCard.lean, 'card_holds'). Laid BY PROGRAM, IN A SANDBOX (cutbox-door.mjs). By AI agents, Wed Nov 11 2026. No macro, syntax, notation, axiom, sorry.
-/
import Derived.Test.YtacndicgpkeobaaGreatDoorRows
import GoSem.ClaimSeven
namespace Go.Proofs.YtacndicgpkeobaaGreatDoor
namespace Rows

/-- THE TIED CARD OF 'shotlinelaw04.AscentChanges'. -/
def ascentChangesCard : Claim7 := { stood := { row := ascentChangesRow, standIns := [], harness := (true, "3af903a5aaad84a2ad96f6306d77a712ebde8916d2eb9b4a0ececa92def31913"), looks := true }, kinds := [], alts := [], laidByText := true, laidKinds := [.data, .data, .data], laidTests := true, laidLooks := .later }
def AscentChangesCardSaid : Prop := Claim7.holds Tryz.pinned (.plain (OpenSpec.ofChange ascentChangesSpec)) ascentChangesCard

/-- THE TIED CARD OF 'shotlinelaw03.TissueTables'. -/
def tissueTablesCard : Claim7 := { stood := { row := tissueTablesRow, standIns := [], harness := (true, "3af903a5aaad84a2ad96f6306d77a712ebde8916d2eb9b4a0ececa92def31913"), looks := true }, kinds := [], alts := [], laidByText := true, laidKinds := [.data, .data, .data, .data, .sentinel, .sentinel, .pinned], laidTests := true, laidLooks := .later }
def TissueTablesCardSaid : Prop := Claim7.holds Tryz.pinned (.plain (OpenSpec.ofChange tissueTablesSpec)) tissueTablesCard

/-- THE TIED CARD OF 'shotlinelaw05.ExposureRules'. -/
def exposureRulesCard : Claim7 := { stood := { row := exposureRulesRow, standIns := [], harness := (true, "3af903a5aaad84a2ad96f6306d77a712ebde8916d2eb9b4a0ececa92def31913"), looks := true }, kinds := [], alts := [], laidByText := true, laidKinds := [.data, .data, .data, .data, .sentinel, .sentinel, .pinned], laidTests := true, laidLooks := .later }
def ExposureRulesCardSaid : Prop := Claim7.holds Tryz.pinned (.plain (OpenSpec.ofChange exposureRulesSpec)) exposureRulesCard

/-- THE TIED CARD OF 'shotlinelaw04.AscentTexts'. -/
def ascentTextsCard : Claim7 := { stood := { row := ascentTextsRow, standIns := [], harness := (true, "3af903a5aaad84a2ad96f6306d77a712ebde8916d2eb9b4a0ececa92def31913"), looks := true }, kinds := [], alts := [], laidByText := true, laidKinds := [.data, .data, .data, .data, .sentinel, .sentinel, .pinned], laidTests := true, laidLooks := .later }
def AscentTextsCardSaid : Prop := Claim7.holds Tryz.pinned (.plain (OpenSpec.ofChange ascentTextsSpec)) ascentTextsCard

/-- THE SECOND FORM's CARD OF 'shotlinelaw04.AscentChanges'. -/
def ascentChangesUptoCard : Claim7 := { stood := { row := ascentChangesUptoRow, standIns := [], harness := (true, "3af903a5aaad84a2ad96f6306d77a712ebde8916d2eb9b4a0ececa92def31913"), looks := true }, kinds := [], alts := [], laidByText := true, laidKinds := [.data, .data, .data], laidTests := true, laidLooks := .later }
def AscentChangesUptoCardSaid : Prop := Claim7.holds Tryz.pinned (.plain (OpenSpec.upto ascentChangesSpec)) ascentChangesUptoCard

/-- THE SECOND FORM's CARD OF 'shotlinelaw03.TissueTables'. -/
def tissueTablesUptoCard : Claim7 := { stood := { row := tissueTablesUptoRow, standIns := [], harness := (true, "3af903a5aaad84a2ad96f6306d77a712ebde8916d2eb9b4a0ececa92def31913"), looks := true }, kinds := [], alts := [], laidByText := true, laidKinds := [.data, .data, .data, .data, .sentinel, .sentinel, .pinned], laidTests := true, laidLooks := .later }
def TissueTablesUptoCardSaid : Prop := Claim7.holds Tryz.pinned (.plain (OpenSpec.upto tissueTablesSpec)) tissueTablesUptoCard

/-- THE SECOND FORM's CARD OF 'shotlinelaw05.ExposureRules'. -/
def exposureRulesUptoCard : Claim7 := { stood := { row := exposureRulesUptoRow, standIns := [], harness := (true, "3af903a5aaad84a2ad96f6306d77a712ebde8916d2eb9b4a0ececa92def31913"), looks := true }, kinds := [], alts := [], laidByText := true, laidKinds := [.data, .data, .data, .data, .sentinel, .sentinel, .pinned], laidTests := true, laidLooks := .later }
def ExposureRulesUptoCardSaid : Prop := Claim7.holds Tryz.pinned (.plain (OpenSpec.upto exposureRulesSpec)) exposureRulesUptoCard

/-- THE SECOND FORM's CARD OF 'shotlinelaw04.AscentTexts'. -/
def ascentTextsUptoCard : Claim7 := { stood := { row := ascentTextsUptoRow, standIns := [], harness := (true, "3af903a5aaad84a2ad96f6306d77a712ebde8916d2eb9b4a0ececa92def31913"), looks := true }, kinds := [], alts := [], laidByText := true, laidKinds := [.data, .data, .data, .data, .sentinel, .sentinel, .pinned], laidTests := true, laidLooks := .later }
def AscentTextsUptoCardSaid : Prop := Claim7.holds Tryz.pinned (.plain (OpenSpec.upto ascentTextsSpec)) ascentTextsUptoCard
end Rows
end Go.Proofs.YtacndicgpkeobaaGreatDoor
