/-
  DERIVED. GIVEN WITH THE SEED: THE CARDS: each row of YtibohfipgjljhaaDoorRows.lean that lists a variable, with what it lists TIED to the program's text (the seventh form; the later family's looks); each row that meets fmt, with fmt's text TOLD by the authors' own Lean function (tested against real Go, not proved from fmt's source: count such statements apart). THE CARD IS WHAT COUNTS. Prove the row's statement (the work); the ties are given (YtibohfipgjljhaaDoorTie.lean); close each card by the builder's one call (the guide's Derived/Test/ToyasCard.lean, 'card_holds'). Laid BY PROGRAM, IN A SANDBOX (cutbox-door.mjs). By AI agents, Wed Nov 11 2026. No macro, syntax, notation, axiom, sorry.
-/
import Derived.Test.YtibohfipgjljhaaDoorRows
import GoSem.ClaimSeven
namespace Go.Proofs.YtibohfipgjljhaaDoor
namespace Rows

/-- THE TIED CARD OF 'shotlinelaw01.GasDepths'. -/
def gasDepthsCard : Claim7 := { stood := { row := gasDepthsRow, standIns := [], harness := (true, "4c81f42b3150eb17b47879de83408346f19f0c4b75aa0deac92d784ae8061554"), looks := true }, kinds := [], alts := [], laidByText := true, laidKinds := [.data, .data, .data, .sentinel, .sentinel, .mapped], laidTests := true, laidLooks := .later }
def GasDepthsCardSaid : Prop := Claim7.holds Tryd.pinned (.plain (OpenSpec.ofChange gasDepthsSpec)) gasDepthsCard

/-- THE TIED CARD OF 'shotlinelaw01.GasBest'. -/
def gasBestCard : Claim7 := { stood := { row := gasBestRow, standIns := [], harness := (true, "4c81f42b3150eb17b47879de83408346f19f0c4b75aa0deac92d784ae8061554"), looks := true }, kinds := [], alts := [], laidByText := true, laidKinds := [.data, .data, .data, .sentinel, .sentinel, .mapped], laidTests := true, laidLooks := .later }
def GasBestCardSaid : Prop := Claim7.holds Tryd.pinned (.plain (OpenSpec.ofChange gasBestSpec)) gasBestCard

/-- THE TIED CARD OF 'shotlinelaw01.GasBetween'. -/
def gasBetweenCard : Claim7 := { stood := { row := gasBetweenRow, standIns := [], harness := (true, "4c81f42b3150eb17b47879de83408346f19f0c4b75aa0deac92d784ae8061554"), looks := true }, kinds := [], alts := [], laidByText := true, laidKinds := [.data, .data, .data, .sentinel, .sentinel, .mapped], laidTests := true, laidLooks := .later }
def GasBetweenCardSaid : Prop := Claim7.holds Tryd.pinned (.plain (OpenSpec.ofChange gasBetweenSpec)) gasBetweenCard

/-- THE TIED CARD OF 'shotlinelaw01.GasMixes'. -/
def gasMixesCard : Claim7 := { stood := { row := gasMixesRow, standIns := [], harness := (true, "4c81f42b3150eb17b47879de83408346f19f0c4b75aa0deac92d784ae8061554"), looks := true }, kinds := [], alts := [], laidByText := true, laidKinds := [.data, .data, .data, .sentinel, .sentinel, .mapped], laidTests := true, laidLooks := .later }
def GasMixesCardSaid : Prop := Claim7.holds Tryd.pinned (.plain (OpenSpec.ofChange gasMixesSpec)) gasMixesCard

/-- THE TIED CARD OF 'shotlinelaw01.GasEdges'. -/
def gasEdgesCard : Claim7 := { stood := { row := gasEdgesRow, standIns := [], harness := (true, "4c81f42b3150eb17b47879de83408346f19f0c4b75aa0deac92d784ae8061554"), looks := true }, kinds := [], alts := [], laidByText := true, laidKinds := [.data, .data, .data, .sentinel, .sentinel, .mapped], laidTests := true, laidLooks := .later }
def GasEdgesCardSaid : Prop := Claim7.holds Tryd.pinned (.plain (OpenSpec.ofChange gasEdgesSpec)) gasEdgesCard

/-- THE TIED CARD OF 'shotlinelaw01.GasNames'. -/
def gasNamesCard : Claim7 := { stood := { row := gasNamesRow, standIns := [], harness := (true, "4c81f42b3150eb17b47879de83408346f19f0c4b75aa0deac92d784ae8061554"), looks := true }, kinds := [], alts := [], laidByText := true, laidKinds := [.data, .data, .data, .sentinel, .sentinel, .mapped], laidTests := true, laidLooks := .later }
def GasNamesCardSaid : Prop := Claim7.holds Tryd.pinned (.plain (OpenSpec.ofChange gasNamesSpec)) gasNamesCard

/-- THE TIED CARD OF 'shotlinelaw01.GasHolds'. -/
def gasHoldsCard : Claim7 := { stood := { row := gasHoldsRow, standIns := [], harness := (true, "4c81f42b3150eb17b47879de83408346f19f0c4b75aa0deac92d784ae8061554"), looks := true }, kinds := [], alts := [], laidByText := true, laidKinds := [.data, .data, .data, .sentinel, .sentinel, .mapped], laidTests := true, laidLooks := .later }
def GasHoldsCardSaid : Prop := Claim7.holds Tryd.pinned (.plain (OpenSpec.ofChange gasHoldsSpec)) gasHoldsCard

/-- THE TIED CARD OF 'shotlinelaw01.GasEquals'. -/
def gasEqualsCard : Claim7 := { stood := { row := gasEqualsRow, standIns := [], harness := (true, "4c81f42b3150eb17b47879de83408346f19f0c4b75aa0deac92d784ae8061554"), looks := true }, kinds := [], alts := [], laidByText := true, laidKinds := [.data, .data, .data, .sentinel, .sentinel, .mapped], laidTests := true, laidLooks := .later }
def GasEqualsCardSaid : Prop := Claim7.holds Tryd.pinned (.plain (OpenSpec.ofChange gasEqualsSpec)) gasEqualsCard

/-- THE TIED CARD OF 'shotlinelaw01.GasPressures'. -/
def gasPressuresCard : Claim7 := { stood := { row := gasPressuresRow, standIns := [], harness := (true, "4c81f42b3150eb17b47879de83408346f19f0c4b75aa0deac92d784ae8061554"), looks := true }, kinds := [], alts := [], laidByText := true, laidKinds := [.data, .data, .data, .sentinel, .sentinel, .mapped], laidTests := true, laidLooks := .later }
def GasPressuresCardSaid : Prop := Claim7.holds Tryd.pinned (.plain (OpenSpec.ofChange gasPressuresSpec)) gasPressuresCard

/-- THE TIED CARD OF 'shotlinelaw01.GasWeights'. -/
def gasWeightsCard : Claim7 := { stood := { row := gasWeightsRow, standIns := [], harness := (true, "4c81f42b3150eb17b47879de83408346f19f0c4b75aa0deac92d784ae8061554"), looks := true }, kinds := [], alts := [], laidByText := true, laidKinds := [.data, .data, .data, .sentinel, .sentinel, .mapped], laidTests := true, laidLooks := .later }
def GasWeightsCardSaid : Prop := Claim7.holds Tryd.pinned (.plain (OpenSpec.ofChange gasWeightsSpec)) gasWeightsCard

/-- THE TIED CARD OF 'shotlinelaw01.GasSame'. -/
def gasSameCard : Claim7 := { stood := { row := gasSameRow, standIns := [], harness := (true, "4c81f42b3150eb17b47879de83408346f19f0c4b75aa0deac92d784ae8061554"), looks := true }, kinds := [], alts := [], laidByText := true, laidKinds := [.data, .data, .data, .sentinel, .sentinel, .mapped], laidTests := true, laidLooks := .later }
def GasSameCardSaid : Prop := Claim7.holds Tryd.pinned (.plain (OpenSpec.ofChange gasSameSpec)) gasSameCard

/-- THE TIED CARD OF 'shotlinelaw01.GasBetter'. -/
def gasBetterCard : Claim7 := { stood := { row := gasBetterRow, standIns := [], harness := (true, "4c81f42b3150eb17b47879de83408346f19f0c4b75aa0deac92d784ae8061554"), looks := true }, kinds := [], alts := [], laidByText := true, laidKinds := [.data, .data, .data, .sentinel, .sentinel, .mapped], laidTests := true, laidLooks := .later }
def GasBetterCardSaid : Prop := Claim7.holds Tryd.pinned (.plain (OpenSpec.ofChange gasBetterSpec)) gasBetterCard

/-- THE TIED CARD OF 'shotlinelaw01.GasRichest'. -/
def gasRichestCard : Claim7 := { stood := { row := gasRichestRow, standIns := [], harness := (true, "4c81f42b3150eb17b47879de83408346f19f0c4b75aa0deac92d784ae8061554"), looks := true }, kinds := [], alts := [], laidByText := true, laidKinds := [.data, .data, .data, .sentinel, .sentinel, .mapped], laidTests := true, laidLooks := .later }
def GasRichestCardSaid : Prop := Claim7.holds Tryd.pinned (.plain (OpenSpec.ofChange gasRichestSpec)) gasRichestCard

/-- THE TIED CARD OF 'shotlinelaw01.GasGaps'. -/
def gasGapsCard : Claim7 := { stood := { row := gasGapsRow, standIns := [], harness := (true, "4c81f42b3150eb17b47879de83408346f19f0c4b75aa0deac92d784ae8061554"), looks := true }, kinds := [], alts := [], laidByText := true, laidKinds := [.data, .data, .data, .sentinel, .sentinel, .mapped], laidTests := true, laidLooks := .later }
def GasGapsCardSaid : Prop := Claim7.holds Tryd.pinned (.plain (OpenSpec.ofChange gasGapsSpec)) gasGapsCard

/-- THE TIED CARD OF 'shotlinetop.TopGasesAddUp'. -/
def topGasesAddUpCard : Claim7 := { stood := { row := topGasesAddUpRow, standIns := [], harness := (true, "4c81f42b3150eb17b47879de83408346f19f0c4b75aa0deac92d784ae8061554"), looks := true }, kinds := [], alts := [], laidByText := true, laidKinds := [.data, .data, .data, .sentinel, .sentinel, .mapped], laidTests := true, laidLooks := .later }
def TopGasesAddUpCardSaid : Prop := Claim7.holds Tryd.pinned (.plain (OpenSpec.ofChange topGasesAddUpSpec)) topGasesAddUpCard

/-- THE SECOND FORM's CARD OF 'shotlinelaw01.GasDepths'. -/
def gasDepthsUptoCard : Claim7 := { stood := { row := gasDepthsUptoRow, standIns := [], harness := (true, "4c81f42b3150eb17b47879de83408346f19f0c4b75aa0deac92d784ae8061554"), looks := true }, kinds := [], alts := [], laidByText := true, laidKinds := [.data, .data, .data, .sentinel, .sentinel, .mapped], laidTests := true, laidLooks := .later }
def GasDepthsUptoCardSaid : Prop := Claim7.holds Tryd.pinned (.plain (OpenSpec.upto gasDepthsSpec)) gasDepthsUptoCard

/-- THE SECOND FORM's CARD OF 'shotlinelaw01.GasBest'. -/
def gasBestUptoCard : Claim7 := { stood := { row := gasBestUptoRow, standIns := [], harness := (true, "4c81f42b3150eb17b47879de83408346f19f0c4b75aa0deac92d784ae8061554"), looks := true }, kinds := [], alts := [], laidByText := true, laidKinds := [.data, .data, .data, .sentinel, .sentinel, .mapped], laidTests := true, laidLooks := .later }
def GasBestUptoCardSaid : Prop := Claim7.holds Tryd.pinned (.plain (OpenSpec.upto gasBestSpec)) gasBestUptoCard

/-- THE SECOND FORM's CARD OF 'shotlinelaw01.GasBetween'. -/
def gasBetweenUptoCard : Claim7 := { stood := { row := gasBetweenUptoRow, standIns := [], harness := (true, "4c81f42b3150eb17b47879de83408346f19f0c4b75aa0deac92d784ae8061554"), looks := true }, kinds := [], alts := [], laidByText := true, laidKinds := [.data, .data, .data, .sentinel, .sentinel, .mapped], laidTests := true, laidLooks := .later }
def GasBetweenUptoCardSaid : Prop := Claim7.holds Tryd.pinned (.plain (OpenSpec.upto gasBetweenSpec)) gasBetweenUptoCard

/-- THE SECOND FORM's CARD OF 'shotlinelaw01.GasMixes'. -/
def gasMixesUptoCard : Claim7 := { stood := { row := gasMixesUptoRow, standIns := [], harness := (true, "4c81f42b3150eb17b47879de83408346f19f0c4b75aa0deac92d784ae8061554"), looks := true }, kinds := [], alts := [], laidByText := true, laidKinds := [.data, .data, .data, .sentinel, .sentinel, .mapped], laidTests := true, laidLooks := .later }
def GasMixesUptoCardSaid : Prop := Claim7.holds Tryd.pinned (.plain (OpenSpec.upto gasMixesSpec)) gasMixesUptoCard

/-- THE SECOND FORM's CARD OF 'shotlinelaw01.GasEdges'. -/
def gasEdgesUptoCard : Claim7 := { stood := { row := gasEdgesUptoRow, standIns := [], harness := (true, "4c81f42b3150eb17b47879de83408346f19f0c4b75aa0deac92d784ae8061554"), looks := true }, kinds := [], alts := [], laidByText := true, laidKinds := [.data, .data, .data, .sentinel, .sentinel, .mapped], laidTests := true, laidLooks := .later }
def GasEdgesUptoCardSaid : Prop := Claim7.holds Tryd.pinned (.plain (OpenSpec.upto gasEdgesSpec)) gasEdgesUptoCard

/-- THE SECOND FORM's CARD OF 'shotlinelaw01.GasNames'. -/
def gasNamesUptoCard : Claim7 := { stood := { row := gasNamesUptoRow, standIns := [], harness := (true, "4c81f42b3150eb17b47879de83408346f19f0c4b75aa0deac92d784ae8061554"), looks := true }, kinds := [], alts := [], laidByText := true, laidKinds := [.data, .data, .data, .sentinel, .sentinel, .mapped], laidTests := true, laidLooks := .later }
def GasNamesUptoCardSaid : Prop := Claim7.holds Tryd.pinned (.plain (OpenSpec.upto gasNamesSpec)) gasNamesUptoCard

/-- THE SECOND FORM's CARD OF 'shotlinelaw01.GasHolds'. -/
def gasHoldsUptoCard : Claim7 := { stood := { row := gasHoldsUptoRow, standIns := [], harness := (true, "4c81f42b3150eb17b47879de83408346f19f0c4b75aa0deac92d784ae8061554"), looks := true }, kinds := [], alts := [], laidByText := true, laidKinds := [.data, .data, .data, .sentinel, .sentinel, .mapped], laidTests := true, laidLooks := .later }
def GasHoldsUptoCardSaid : Prop := Claim7.holds Tryd.pinned (.plain (OpenSpec.upto gasHoldsSpec)) gasHoldsUptoCard

/-- THE SECOND FORM's CARD OF 'shotlinelaw01.GasEquals'. -/
def gasEqualsUptoCard : Claim7 := { stood := { row := gasEqualsUptoRow, standIns := [], harness := (true, "4c81f42b3150eb17b47879de83408346f19f0c4b75aa0deac92d784ae8061554"), looks := true }, kinds := [], alts := [], laidByText := true, laidKinds := [.data, .data, .data, .sentinel, .sentinel, .mapped], laidTests := true, laidLooks := .later }
def GasEqualsUptoCardSaid : Prop := Claim7.holds Tryd.pinned (.plain (OpenSpec.upto gasEqualsSpec)) gasEqualsUptoCard

/-- THE SECOND FORM's CARD OF 'shotlinelaw01.GasPressures'. -/
def gasPressuresUptoCard : Claim7 := { stood := { row := gasPressuresUptoRow, standIns := [], harness := (true, "4c81f42b3150eb17b47879de83408346f19f0c4b75aa0deac92d784ae8061554"), looks := true }, kinds := [], alts := [], laidByText := true, laidKinds := [.data, .data, .data, .sentinel, .sentinel, .mapped], laidTests := true, laidLooks := .later }
def GasPressuresUptoCardSaid : Prop := Claim7.holds Tryd.pinned (.plain (OpenSpec.upto gasPressuresSpec)) gasPressuresUptoCard

/-- THE SECOND FORM's CARD OF 'shotlinelaw01.GasWeights'. -/
def gasWeightsUptoCard : Claim7 := { stood := { row := gasWeightsUptoRow, standIns := [], harness := (true, "4c81f42b3150eb17b47879de83408346f19f0c4b75aa0deac92d784ae8061554"), looks := true }, kinds := [], alts := [], laidByText := true, laidKinds := [.data, .data, .data, .sentinel, .sentinel, .mapped], laidTests := true, laidLooks := .later }
def GasWeightsUptoCardSaid : Prop := Claim7.holds Tryd.pinned (.plain (OpenSpec.upto gasWeightsSpec)) gasWeightsUptoCard

/-- THE SECOND FORM's CARD OF 'shotlinelaw01.GasSame'. -/
def gasSameUptoCard : Claim7 := { stood := { row := gasSameUptoRow, standIns := [], harness := (true, "4c81f42b3150eb17b47879de83408346f19f0c4b75aa0deac92d784ae8061554"), looks := true }, kinds := [], alts := [], laidByText := true, laidKinds := [.data, .data, .data, .sentinel, .sentinel, .mapped], laidTests := true, laidLooks := .later }
def GasSameUptoCardSaid : Prop := Claim7.holds Tryd.pinned (.plain (OpenSpec.upto gasSameSpec)) gasSameUptoCard

/-- THE SECOND FORM's CARD OF 'shotlinelaw01.GasBetter'. -/
def gasBetterUptoCard : Claim7 := { stood := { row := gasBetterUptoRow, standIns := [], harness := (true, "4c81f42b3150eb17b47879de83408346f19f0c4b75aa0deac92d784ae8061554"), looks := true }, kinds := [], alts := [], laidByText := true, laidKinds := [.data, .data, .data, .sentinel, .sentinel, .mapped], laidTests := true, laidLooks := .later }
def GasBetterUptoCardSaid : Prop := Claim7.holds Tryd.pinned (.plain (OpenSpec.upto gasBetterSpec)) gasBetterUptoCard

/-- THE SECOND FORM's CARD OF 'shotlinelaw01.GasRichest'. -/
def gasRichestUptoCard : Claim7 := { stood := { row := gasRichestUptoRow, standIns := [], harness := (true, "4c81f42b3150eb17b47879de83408346f19f0c4b75aa0deac92d784ae8061554"), looks := true }, kinds := [], alts := [], laidByText := true, laidKinds := [.data, .data, .data, .sentinel, .sentinel, .mapped], laidTests := true, laidLooks := .later }
def GasRichestUptoCardSaid : Prop := Claim7.holds Tryd.pinned (.plain (OpenSpec.upto gasRichestSpec)) gasRichestUptoCard

/-- THE SECOND FORM's CARD OF 'shotlinelaw01.GasGaps'. -/
def gasGapsUptoCard : Claim7 := { stood := { row := gasGapsUptoRow, standIns := [], harness := (true, "4c81f42b3150eb17b47879de83408346f19f0c4b75aa0deac92d784ae8061554"), looks := true }, kinds := [], alts := [], laidByText := true, laidKinds := [.data, .data, .data, .sentinel, .sentinel, .mapped], laidTests := true, laidLooks := .later }
def GasGapsUptoCardSaid : Prop := Claim7.holds Tryd.pinned (.plain (OpenSpec.upto gasGapsSpec)) gasGapsUptoCard

/-- THE SECOND FORM's CARD OF 'shotlinetop.TopGasesAddUp'. -/
def topGasesAddUpUptoCard : Claim7 := { stood := { row := topGasesAddUpUptoRow, standIns := [], harness := (true, "4c81f42b3150eb17b47879de83408346f19f0c4b75aa0deac92d784ae8061554"), looks := true }, kinds := [], alts := [], laidByText := true, laidKinds := [.data, .data, .data, .sentinel, .sentinel, .mapped], laidTests := true, laidLooks := .later }
def TopGasesAddUpUptoCardSaid : Prop := Claim7.holds Tryd.pinned (.plain (OpenSpec.upto topGasesAddUpSpec)) topGasesAddUpUptoCard
end Rows
end Go.Proofs.YtibohfipgjljhaaDoor
