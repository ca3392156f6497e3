/-
  DERIVED. GIVEN WITH THE SEED: THE CARDS: each row of YtcnlbobkjeiakaaGreatDoorRows.lean that lists a variable, with what it lists TIED to the program's text (the seventh form; the later family's looks); each row that meets fmt, with fmt's text TOLD by the authors' own Lean function (tested against real Go, not proved from fmt's source: count such statements apart). THE CARD IS WHAT COUNTS. Prove the row's statement (the work); the ties are given (YtcnlbobkjeiakaaGreatDoorTie.lean); close each card by the builder's one call (the guide's Derived/Test/ToyasCard.lean, 'card_holds'). Laid BY PROGRAM, IN A SANDBOX (cutbox-door.mjs). By AI agents, Wed Nov 11 2026. No macro, syntax, notation, axiom, sorry.
-/
import Derived.Test.YtcnlbobkjeiakaaGreatDoorRows
import GoSem.ClaimSeven
namespace Go.Proofs.YtcnlbobkjeiakaaGreatDoor
namespace Rows

/-- THE TIED CARD OF 'apographlaw12.LegibilityChanges'. -/
def legibilityChangesCard : Claim7 := { stood := { row := legibilityChangesRow, standIns := [], harness := (true, "6dc3fca79fd28b81e68f26f5f5e5786f10a6d3ec29c78fbe4e77445e5f4dbba6"), looks := false }, kinds := [], alts := [], laidByText := true, laidKinds := [.data, .data, .data, .widerDeep], laidTests := true, laidLooks := .later }
def LegibilityChangesCardSaid : Prop := Claim7.holds Tryz.pinned (.plain (OpenSpec.ofChange legibilityChangesSpec)) legibilityChangesCard

/-- THE SECOND FORM's CARD OF 'apographlaw12.LegibilityChanges'. -/
def legibilityChangesUptoCard : Claim7 := { stood := { row := legibilityChangesUptoRow, standIns := [], harness := (true, "6dc3fca79fd28b81e68f26f5f5e5786f10a6d3ec29c78fbe4e77445e5f4dbba6"), looks := false }, kinds := [], alts := [], laidByText := true, laidKinds := [.data, .data, .data, .widerDeep], laidTests := true, laidLooks := .later }
def LegibilityChangesUptoCardSaid : Prop := Claim7.holds Tryz.pinned (.plain (OpenSpec.upto legibilityChangesSpec)) legibilityChangesUptoCard
end Rows
end Go.Proofs.YtcnlbobkjeiakaaGreatDoor
