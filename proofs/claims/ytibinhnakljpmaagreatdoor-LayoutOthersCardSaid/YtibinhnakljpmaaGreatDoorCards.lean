/-
  DERIVED. GIVEN WITH THE SEED: THE CARDS: each row of YtibinhnakljpmaaGreatDoorRows.lean that lists a variable, with what it lists TIED to the program's text (the seventh form; the later family's looks); each row that meets fmt, with fmt's text TOLD by the authors' own Lean function (tested against real Go, not proved from fmt's source: count such statements apart). THE CARD IS WHAT COUNTS. Prove the row's statement (the work); the ties are given (YtibinhnakljpmaaGreatDoorTie.lean); close each card by the builder's one call (the guide's Derived/Test/ToyasCard.lean, 'card_holds'). Laid BY PROGRAM, IN A SANDBOX (cutbox-door.mjs). By AI agents, Wed Nov 11 2026. No macro, syntax, notation, axiom, sorry.
-/
import Derived.Test.YtibinhnakljpmaaGreatDoorRows
import GoSem.ClaimSeven
namespace Go.Proofs.YtibinhnakljpmaaGreatDoor
namespace Rows

/-- THE TIED CARD OF 'apographlaw13.LayoutOthers'. -/
def layoutOthersCard : Claim7 := { stood := { row := layoutOthersRow, standIns := [], harness := (true, "5c42e68223bc38c2651a0b65bddeb8d216ad2aac99b9070ed5ca0d060f8e2ba9"), looks := false }, kinds := [], alts := [], laidByText := true, laidKinds := [.data, .data, .data, .widerDeep], laidTests := true, laidLooks := .later }
def LayoutOthersCardSaid : Prop := Claim7.holds Tryz.pinned (.plain (OpenSpec.ofChange layoutOthersSpec)) layoutOthersCard

/-- THE SECOND FORM's CARD OF 'apographlaw13.LayoutOthers'. -/
def layoutOthersUptoCard : Claim7 := { stood := { row := layoutOthersUptoRow, standIns := [], harness := (true, "5c42e68223bc38c2651a0b65bddeb8d216ad2aac99b9070ed5ca0d060f8e2ba9"), looks := false }, kinds := [], alts := [], laidByText := true, laidKinds := [.data, .data, .data, .widerDeep], laidTests := true, laidLooks := .later }
def LayoutOthersUptoCardSaid : Prop := Claim7.holds Tryz.pinned (.plain (OpenSpec.upto layoutOthersSpec)) layoutOthersUptoCard
end Rows
end Go.Proofs.YtibinhnakljpmaaGreatDoor
