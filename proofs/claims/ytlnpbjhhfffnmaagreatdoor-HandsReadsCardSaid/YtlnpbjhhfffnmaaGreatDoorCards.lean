/-
  DERIVED. GIVEN WITH THE SEED: THE CARDS: each row of YtlnpbjhhfffnmaaGreatDoorRows.lean that lists a variable, with what it lists TIED to the program's text (the seventh form; the later family's looks); each row that meets fmt, with fmt's text TOLD by the authors' own Lean function (tested against real Go, not proved from fmt's source: count such statements apart). THE CARD IS WHAT COUNTS. Prove the row's statement (the work); the ties are given (YtlnpbjhhfffnmaaGreatDoorTie.lean); close each card by the builder's one call (the guide's Derived/Test/ToyasCard.lean, 'card_holds'). Laid BY PROGRAM, IN A SANDBOX (cutbox-door.mjs). By AI agents, Wed Nov 11 2026. No macro, syntax, notation, axiom, sorry.
-/
import Derived.Test.YtlnpbjhhfffnmaaGreatDoorRows
import GoSem.ClaimSeven
namespace Go.Proofs.YtlnpbjhhfffnmaaGreatDoor
namespace Rows

/-- THE TIED CARD OF 'apographlaw11.HandsReads'. -/
def handsReadsCard : Claim7 := { stood := { row := handsReadsRow, standIns := [], harness := (true, "ff7908f63812493546562a89d2fb80a81e7d5bc2fbba050e7049167ecf730f5f"), looks := false }, kinds := [], alts := [], laidByText := true, laidKinds := [.data, .data, .data, .widerDeep], laidTests := true, laidLooks := .later }
def HandsReadsCardSaid : Prop := Claim7.holds Tryz.pinned (.plain (OpenSpec.ofChange handsReadsSpec)) handsReadsCard

/-- THE SECOND FORM's CARD OF 'apographlaw11.HandsReads'. -/
def handsReadsUptoCard : Claim7 := { stood := { row := handsReadsUptoRow, standIns := [], harness := (true, "ff7908f63812493546562a89d2fb80a81e7d5bc2fbba050e7049167ecf730f5f"), looks := false }, kinds := [], alts := [], laidByText := true, laidKinds := [.data, .data, .data, .widerDeep], laidTests := true, laidLooks := .later }
def HandsReadsUptoCardSaid : Prop := Claim7.holds Tryz.pinned (.plain (OpenSpec.upto handsReadsSpec)) handsReadsUptoCard
end Rows
end Go.Proofs.YtlnpbjhhfffnmaaGreatDoor
