/-
  DERIVED. GIVEN WITH THE SEED: THE CARDS: each row of YtkecgnlelgdndaaGreatDoorRows.lean that lists a variable, with what it lists TIED to the program's text (the seventh form; the later family's looks); each row that meets fmt, with fmt's text TOLD by the authors' own Lean function (tested against real Go, not proved from fmt's source: count such statements apart). THE CARD IS WHAT COUNTS. Prove the row's statement (the work); the ties are given (YtkecgnlelgdndaaGreatDoorTie.lean); close each card by the builder's one call (the guide's Derived/Test/ToyasCard.lean, 'card_holds'). Laid BY PROGRAM, IN A SANDBOX (cutbox-door.mjs). By AI agents, Wed Nov 11 2026. No macro, syntax, notation, axiom, sorry.
-/
import Derived.Test.YtkecgnlelgdndaaGreatDoorRows
import GoSem.ClaimSeven
namespace Go.Proofs.YtkecgnlelgdndaaGreatDoor
namespace Rows

/-- THE TIED CARD OF 'apographlaw16.WitnessSources'. -/
def witnessSourcesCard : Claim7 := { stood := { row := witnessSourcesRow, standIns := [], harness := (true, "144d00876b5fc3d9f063788ea06c0c248661a71c6d521001fae9c94ca2c9c296"), looks := true }, kinds := [], alts := [], laidByText := true, laidKinds := [.data, .data, .data, .data, .sentinel, .sentinel, .widerDeep, .pinned], laidTests := true, laidLooks := .later }
def WitnessSourcesCardSaid : Prop := Claim7.holds Tryz.pinned (.plain (OpenSpec.ofChange witnessSourcesSpec)) witnessSourcesCard

/-- THE TIED CARD OF 'apographlaw16.WitnessDivides'. -/
def witnessDividesCard : Claim7 := { stood := { row := witnessDividesRow, standIns := [], harness := (true, "144d00876b5fc3d9f063788ea06c0c248661a71c6d521001fae9c94ca2c9c296"), looks := true }, kinds := [], alts := [], laidByText := true, laidKinds := [.data, .data, .data, .data, .sentinel, .sentinel, .widerDeep, .pinned], laidTests := true, laidLooks := .later }
def WitnessDividesCardSaid : Prop := Claim7.holds Tryz.pinned (.plain (OpenSpec.ofChange witnessDividesSpec)) witnessDividesCard

/-- THE TIED CARD OF 'apographlaw16.WitnessOrders'. -/
def witnessOrdersCard : Claim7 := { stood := { row := witnessOrdersRow, standIns := [], harness := (true, "144d00876b5fc3d9f063788ea06c0c248661a71c6d521001fae9c94ca2c9c296"), looks := true }, kinds := [], alts := [], laidByText := true, laidKinds := [.data, .data, .data, .data, .sentinel, .sentinel, .widerDeep, .pinned], laidTests := true, laidLooks := .later }
def WitnessOrdersCardSaid : Prop := Claim7.holds Tryz.pinned (.plain (OpenSpec.ofChange witnessOrdersSpec)) witnessOrdersCard

/-- THE TIED CARD OF 'apographlaw16.WitnessTokens'. -/
def witnessTokensCard : Claim7 := { stood := { row := witnessTokensRow, standIns := [], harness := (true, "144d00876b5fc3d9f063788ea06c0c248661a71c6d521001fae9c94ca2c9c296"), looks := true }, kinds := [], alts := [], laidByText := true, laidKinds := [.data, .data, .data, .data, .sentinel, .sentinel, .widerDeep, .pinned], laidTests := true, laidLooks := .later }
def WitnessTokensCardSaid : Prop := Claim7.holds Tryz.pinned (.plain (OpenSpec.ofChange witnessTokensSpec)) witnessTokensCard

/-- THE TIED CARD OF 'apographlaw16.WitnessParts'. -/
def witnessPartsCard : Claim7 := { stood := { row := witnessPartsRow, standIns := [], harness := (true, "144d00876b5fc3d9f063788ea06c0c248661a71c6d521001fae9c94ca2c9c296"), looks := true }, kinds := [], alts := [], laidByText := true, laidKinds := [.data, .data, .data, .data, .sentinel, .sentinel, .widerDeep, .pinned], laidTests := true, laidLooks := .later }
def WitnessPartsCardSaid : Prop := Claim7.holds Tryz.pinned (.plain (OpenSpec.ofChange witnessPartsSpec)) witnessPartsCard

/-- THE TIED CARD OF 'apographlaw16.WitnessSigla'. -/
def witnessSiglaCard : Claim7 := { stood := { row := witnessSiglaRow, standIns := [], harness := (true, "144d00876b5fc3d9f063788ea06c0c248661a71c6d521001fae9c94ca2c9c296"), looks := true }, kinds := [], alts := [], laidByText := true, laidKinds := [.data, .data, .data, .data, .sentinel, .sentinel, .widerDeep, .pinned], laidTests := true, laidLooks := .later }
def WitnessSiglaCardSaid : Prop := Claim7.holds Tryz.pinned (.plain (OpenSpec.ofChange witnessSiglaSpec)) witnessSiglaCard

/-- THE TIED CARD OF 'apographlaw16.WitnessHands'. -/
def witnessHandsCard : Claim7 := { stood := { row := witnessHandsRow, standIns := [], harness := (true, "144d00876b5fc3d9f063788ea06c0c248661a71c6d521001fae9c94ca2c9c296"), looks := true }, kinds := [], alts := [], laidByText := true, laidKinds := [.data, .data, .data, .data, .sentinel, .sentinel, .widerDeep, .pinned], laidTests := true, laidLooks := .later }
def WitnessHandsCardSaid : Prop := Claim7.holds Tryz.pinned (.plain (OpenSpec.ofChange witnessHandsSpec)) witnessHandsCard

/-- THE TIED CARD OF 'apographlaw16.WitnessPositions'. -/
def witnessPositionsCard : Claim7 := { stood := { row := witnessPositionsRow, standIns := [], harness := (true, "144d00876b5fc3d9f063788ea06c0c248661a71c6d521001fae9c94ca2c9c296"), looks := true }, kinds := [], alts := [], laidByText := true, laidKinds := [.data, .data, .data, .data, .sentinel, .sentinel, .widerDeep, .pinned], laidTests := true, laidLooks := .later }
def WitnessPositionsCardSaid : Prop := Claim7.holds Tryz.pinned (.plain (OpenSpec.ofChange witnessPositionsSpec)) witnessPositionsCard

/-- THE SECOND FORM's CARD OF 'apographlaw16.WitnessSources'. -/
def witnessSourcesUptoCard : Claim7 := { stood := { row := witnessSourcesUptoRow, standIns := [], harness := (true, "144d00876b5fc3d9f063788ea06c0c248661a71c6d521001fae9c94ca2c9c296"), looks := true }, kinds := [], alts := [], laidByText := true, laidKinds := [.data, .data, .data, .data, .sentinel, .sentinel, .widerDeep, .pinned], laidTests := true, laidLooks := .later }
def WitnessSourcesUptoCardSaid : Prop := Claim7.holds Tryz.pinned (.plain (OpenSpec.upto witnessSourcesSpec)) witnessSourcesUptoCard

/-- THE SECOND FORM's CARD OF 'apographlaw16.WitnessDivides'. -/
def witnessDividesUptoCard : Claim7 := { stood := { row := witnessDividesUptoRow, standIns := [], harness := (true, "144d00876b5fc3d9f063788ea06c0c248661a71c6d521001fae9c94ca2c9c296"), looks := true }, kinds := [], alts := [], laidByText := true, laidKinds := [.data, .data, .data, .data, .sentinel, .sentinel, .widerDeep, .pinned], laidTests := true, laidLooks := .later }
def WitnessDividesUptoCardSaid : Prop := Claim7.holds Tryz.pinned (.plain (OpenSpec.upto witnessDividesSpec)) witnessDividesUptoCard

/-- THE SECOND FORM's CARD OF 'apographlaw16.WitnessOrders'. -/
def witnessOrdersUptoCard : Claim7 := { stood := { row := witnessOrdersUptoRow, standIns := [], harness := (true, "144d00876b5fc3d9f063788ea06c0c248661a71c6d521001fae9c94ca2c9c296"), looks := true }, kinds := [], alts := [], laidByText := true, laidKinds := [.data, .data, .data, .data, .sentinel, .sentinel, .widerDeep, .pinned], laidTests := true, laidLooks := .later }
def WitnessOrdersUptoCardSaid : Prop := Claim7.holds Tryz.pinned (.plain (OpenSpec.upto witnessOrdersSpec)) witnessOrdersUptoCard

/-- THE SECOND FORM's CARD OF 'apographlaw16.WitnessTokens'. -/
def witnessTokensUptoCard : Claim7 := { stood := { row := witnessTokensUptoRow, standIns := [], harness := (true, "144d00876b5fc3d9f063788ea06c0c248661a71c6d521001fae9c94ca2c9c296"), looks := true }, kinds := [], alts := [], laidByText := true, laidKinds := [.data, .data, .data, .data, .sentinel, .sentinel, .widerDeep, .pinned], laidTests := true, laidLooks := .later }
def WitnessTokensUptoCardSaid : Prop := Claim7.holds Tryz.pinned (.plain (OpenSpec.upto witnessTokensSpec)) witnessTokensUptoCard

/-- THE SECOND FORM's CARD OF 'apographlaw16.WitnessParts'. -/
def witnessPartsUptoCard : Claim7 := { stood := { row := witnessPartsUptoRow, standIns := [], harness := (true, "144d00876b5fc3d9f063788ea06c0c248661a71c6d521001fae9c94ca2c9c296"), looks := true }, kinds := [], alts := [], laidByText := true, laidKinds := [.data, .data, .data, .data, .sentinel, .sentinel, .widerDeep, .pinned], laidTests := true, laidLooks := .later }
def WitnessPartsUptoCardSaid : Prop := Claim7.holds Tryz.pinned (.plain (OpenSpec.upto witnessPartsSpec)) witnessPartsUptoCard

/-- THE SECOND FORM's CARD OF 'apographlaw16.WitnessSigla'. -/
def witnessSiglaUptoCard : Claim7 := { stood := { row := witnessSiglaUptoRow, standIns := [], harness := (true, "144d00876b5fc3d9f063788ea06c0c248661a71c6d521001fae9c94ca2c9c296"), looks := true }, kinds := [], alts := [], laidByText := true, laidKinds := [.data, .data, .data, .data, .sentinel, .sentinel, .widerDeep, .pinned], laidTests := true, laidLooks := .later }
def WitnessSiglaUptoCardSaid : Prop := Claim7.holds Tryz.pinned (.plain (OpenSpec.upto witnessSiglaSpec)) witnessSiglaUptoCard

/-- THE SECOND FORM's CARD OF 'apographlaw16.WitnessHands'. -/
def witnessHandsUptoCard : Claim7 := { stood := { row := witnessHandsUptoRow, standIns := [], harness := (true, "144d00876b5fc3d9f063788ea06c0c248661a71c6d521001fae9c94ca2c9c296"), looks := true }, kinds := [], alts := [], laidByText := true, laidKinds := [.data, .data, .data, .data, .sentinel, .sentinel, .widerDeep, .pinned], laidTests := true, laidLooks := .later }
def WitnessHandsUptoCardSaid : Prop := Claim7.holds Tryz.pinned (.plain (OpenSpec.upto witnessHandsSpec)) witnessHandsUptoCard

/-- THE SECOND FORM's CARD OF 'apographlaw16.WitnessPositions'. -/
def witnessPositionsUptoCard : Claim7 := { stood := { row := witnessPositionsUptoRow, standIns := [], harness := (true, "144d00876b5fc3d9f063788ea06c0c248661a71c6d521001fae9c94ca2c9c296"), looks := true }, kinds := [], alts := [], laidByText := true, laidKinds := [.data, .data, .data, .data, .sentinel, .sentinel, .widerDeep, .pinned], laidTests := true, laidLooks := .later }
def WitnessPositionsUptoCardSaid : Prop := Claim7.holds Tryz.pinned (.plain (OpenSpec.upto witnessPositionsSpec)) witnessPositionsUptoCard
end Rows
end Go.Proofs.YtkecgnlelgdndaaGreatDoor
