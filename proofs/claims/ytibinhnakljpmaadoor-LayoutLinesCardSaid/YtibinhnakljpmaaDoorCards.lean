/-
  DERIVED. GIVEN WITH THE SEED: THE CARDS: each row of YtibinhnakljpmaaDoorRows.lean that lists a variable, with what it lists TIED to the program's text (the seventh form; the later family's looks); each row that meets fmt, with fmt's text TOLD by the authors' own Lean function (tested against real Go, not proved from fmt's source: count such statements apart). THE CARD IS WHAT COUNTS. Prove the row's statement (the work); the ties are given (YtibinhnakljpmaaDoorTie.lean); close each card by the builder's one call (the guide's Derived/Test/ToyasCard.lean, 'card_holds'). Laid BY PROGRAM, IN A SANDBOX (cutbox-door.mjs). By AI agents, Wed Nov 11 2026. No macro, syntax, notation, axiom, sorry.
-/
import Derived.Test.YtibinhnakljpmaaDoorRows
import GoSem.ClaimSeven
namespace Go.Proofs.YtibinhnakljpmaaDoor
namespace Rows

/-- THE TIED CARD OF 'apographlaw13.LayoutPositions'. -/
def layoutPositionsCard : Claim7 := { stood := { row := layoutPositionsRow, standIns := [], harness := (true, "c1a30616bd9cb3ddeb8c20118ff00ecc650046e3191ba07ee790e7525276a040"), looks := false }, kinds := [], alts := [], laidByText := true, laidKinds := [.data, .data, .data, .widerDeep], laidTests := true, laidLooks := .later }
def LayoutPositionsCardSaid : Prop := Claim7.holds Tryd.pinned (.plain (OpenSpec.ofChange layoutPositionsSpec)) layoutPositionsCard

/-- THE TIED CARD OF 'apographlaw13.LayoutCounts'. -/
def layoutCountsCard : Claim7 := { stood := { row := layoutCountsRow, standIns := [], harness := (true, "c1a30616bd9cb3ddeb8c20118ff00ecc650046e3191ba07ee790e7525276a040"), looks := false }, kinds := [], alts := [], laidByText := true, laidKinds := [.data, .data, .data, .widerDeep], laidTests := true, laidLooks := .later }
def LayoutCountsCardSaid : Prop := Claim7.holds Tryd.pinned (.plain (OpenSpec.ofChange layoutCountsSpec)) layoutCountsCard

/-- THE TIED CARD OF 'apographlaw13.LayoutBroken'. -/
def layoutBrokenCard : Claim7 := { stood := { row := layoutBrokenRow, standIns := [], harness := (true, "c1a30616bd9cb3ddeb8c20118ff00ecc650046e3191ba07ee790e7525276a040"), looks := false }, kinds := [], alts := [], laidByText := true, laidKinds := [.data, .data, .data, .widerDeep], laidTests := true, laidLooks := .later }
def LayoutBrokenCardSaid : Prop := Claim7.holds Tryd.pinned (.plain (OpenSpec.ofChange layoutBrokenSpec)) layoutBrokenCard

/-- THE TIED CARD OF 'apographlaw13.LayoutStarts'. -/
def layoutStartsCard : Claim7 := { stood := { row := layoutStartsRow, standIns := [], harness := (true, "c1a30616bd9cb3ddeb8c20118ff00ecc650046e3191ba07ee790e7525276a040"), looks := false }, kinds := [], alts := [], laidByText := true, laidKinds := [.data, .data, .data, .widerDeep], laidTests := true, laidLooks := .later }
def LayoutStartsCardSaid : Prop := Claim7.holds Tryd.pinned (.plain (OpenSpec.ofChange layoutStartsSpec)) layoutStartsCard

/-- THE TIED CARD OF 'apographlaw13.LayoutFind'. -/
def layoutFindCard : Claim7 := { stood := { row := layoutFindRow, standIns := [], harness := (true, "c1a30616bd9cb3ddeb8c20118ff00ecc650046e3191ba07ee790e7525276a040"), looks := false }, kinds := [], alts := [], laidByText := true, laidKinds := [.data, .data, .data, .widerDeep], laidTests := true, laidLooks := .later }
def LayoutFindCardSaid : Prop := Claim7.holds Tryd.pinned (.plain (OpenSpec.ofChange layoutFindSpec)) layoutFindCard

/-- THE TIED CARD OF 'apographlaw13.LayoutOrder'. -/
def layoutOrderCard : Claim7 := { stood := { row := layoutOrderRow, standIns := [], harness := (true, "c1a30616bd9cb3ddeb8c20118ff00ecc650046e3191ba07ee790e7525276a040"), looks := false }, kinds := [], alts := [], laidByText := true, laidKinds := [.data, .data, .data, .widerDeep], laidTests := true, laidLooks := .later }
def LayoutOrderCardSaid : Prop := Claim7.holds Tryd.pinned (.plain (OpenSpec.ofChange layoutOrderSpec)) layoutOrderCard

/-- THE TIED CARD OF 'apographlaw13.LayoutLines'. -/
def layoutLinesCard : Claim7 := { stood := { row := layoutLinesRow, standIns := [], harness := (true, "c1a30616bd9cb3ddeb8c20118ff00ecc650046e3191ba07ee790e7525276a040"), looks := false }, kinds := [], alts := [], laidByText := true, laidKinds := [.data, .data, .data, .widerDeep], laidTests := true, laidLooks := .later }
def LayoutLinesCardSaid : Prop := Claim7.holds Tryd.pinned (.plain (OpenSpec.ofChange layoutLinesSpec)) layoutLinesCard

/-- THE SECOND FORM's CARD OF 'apographlaw13.LayoutPositions'. -/
def layoutPositionsUptoCard : Claim7 := { stood := { row := layoutPositionsUptoRow, standIns := [], harness := (true, "c1a30616bd9cb3ddeb8c20118ff00ecc650046e3191ba07ee790e7525276a040"), looks := false }, kinds := [], alts := [], laidByText := true, laidKinds := [.data, .data, .data, .widerDeep], laidTests := true, laidLooks := .later }
def LayoutPositionsUptoCardSaid : Prop := Claim7.holds Tryd.pinned (.plain (OpenSpec.upto layoutPositionsSpec)) layoutPositionsUptoCard

/-- THE SECOND FORM's CARD OF 'apographlaw13.LayoutCounts'. -/
def layoutCountsUptoCard : Claim7 := { stood := { row := layoutCountsUptoRow, standIns := [], harness := (true, "c1a30616bd9cb3ddeb8c20118ff00ecc650046e3191ba07ee790e7525276a040"), looks := false }, kinds := [], alts := [], laidByText := true, laidKinds := [.data, .data, .data, .widerDeep], laidTests := true, laidLooks := .later }
def LayoutCountsUptoCardSaid : Prop := Claim7.holds Tryd.pinned (.plain (OpenSpec.upto layoutCountsSpec)) layoutCountsUptoCard

/-- THE SECOND FORM's CARD OF 'apographlaw13.LayoutBroken'. -/
def layoutBrokenUptoCard : Claim7 := { stood := { row := layoutBrokenUptoRow, standIns := [], harness := (true, "c1a30616bd9cb3ddeb8c20118ff00ecc650046e3191ba07ee790e7525276a040"), looks := false }, kinds := [], alts := [], laidByText := true, laidKinds := [.data, .data, .data, .widerDeep], laidTests := true, laidLooks := .later }
def LayoutBrokenUptoCardSaid : Prop := Claim7.holds Tryd.pinned (.plain (OpenSpec.upto layoutBrokenSpec)) layoutBrokenUptoCard

/-- THE SECOND FORM's CARD OF 'apographlaw13.LayoutStarts'. -/
def layoutStartsUptoCard : Claim7 := { stood := { row := layoutStartsUptoRow, standIns := [], harness := (true, "c1a30616bd9cb3ddeb8c20118ff00ecc650046e3191ba07ee790e7525276a040"), looks := false }, kinds := [], alts := [], laidByText := true, laidKinds := [.data, .data, .data, .widerDeep], laidTests := true, laidLooks := .later }
def LayoutStartsUptoCardSaid : Prop := Claim7.holds Tryd.pinned (.plain (OpenSpec.upto layoutStartsSpec)) layoutStartsUptoCard

/-- THE SECOND FORM's CARD OF 'apographlaw13.LayoutFind'. -/
def layoutFindUptoCard : Claim7 := { stood := { row := layoutFindUptoRow, standIns := [], harness := (true, "c1a30616bd9cb3ddeb8c20118ff00ecc650046e3191ba07ee790e7525276a040"), looks := false }, kinds := [], alts := [], laidByText := true, laidKinds := [.data, .data, .data, .widerDeep], laidTests := true, laidLooks := .later }
def LayoutFindUptoCardSaid : Prop := Claim7.holds Tryd.pinned (.plain (OpenSpec.upto layoutFindSpec)) layoutFindUptoCard

/-- THE SECOND FORM's CARD OF 'apographlaw13.LayoutOrder'. -/
def layoutOrderUptoCard : Claim7 := { stood := { row := layoutOrderUptoRow, standIns := [], harness := (true, "c1a30616bd9cb3ddeb8c20118ff00ecc650046e3191ba07ee790e7525276a040"), looks := false }, kinds := [], alts := [], laidByText := true, laidKinds := [.data, .data, .data, .widerDeep], laidTests := true, laidLooks := .later }
def LayoutOrderUptoCardSaid : Prop := Claim7.holds Tryd.pinned (.plain (OpenSpec.upto layoutOrderSpec)) layoutOrderUptoCard

/-- THE SECOND FORM's CARD OF 'apographlaw13.LayoutLines'. -/
def layoutLinesUptoCard : Claim7 := { stood := { row := layoutLinesUptoRow, standIns := [], harness := (true, "c1a30616bd9cb3ddeb8c20118ff00ecc650046e3191ba07ee790e7525276a040"), looks := false }, kinds := [], alts := [], laidByText := true, laidKinds := [.data, .data, .data, .widerDeep], laidTests := true, laidLooks := .later }
def LayoutLinesUptoCardSaid : Prop := Claim7.holds Tryd.pinned (.plain (OpenSpec.upto layoutLinesSpec)) layoutLinesUptoCard
end Rows
end Go.Proofs.YtibinhnakljpmaaDoor
