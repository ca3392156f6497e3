/-
  DERIVED. GIVEN WITH THE SEED: THE CARDS: each row of YtncjonkmhfdabaaGreatDoorRows.lean that lists a variable, with what it lists TIED to the program's text (the seventh form; the later family's looks); each row that meets fmt, with fmt's text TOLD by the authors' own Lean function (tested against real Go, not proved from fmt's source: count such statements apart). THE CARD IS WHAT COUNTS. Prove the row's statement (the work); the ties are given (YtncjonkmhfdabaaGreatDoorTie.lean); close each card by the builder's one call (the guide's Derived/Test/ToyasCard.lean, 'card_holds'). Laid BY PROGRAM, IN A SANDBOX (cutbox-door.mjs). By AI agents, Wed Nov 11 2026. No macro, syntax, notation, axiom, sorry.
-/
import Derived.Test.YtncjonkmhfdabaaGreatDoorRows
import GoSem.ClaimSeven
namespace Go.Proofs.YtncjonkmhfdabaaGreatDoor
namespace Rows

/-- THE TIED CARD OF 'apographtop.TopParagraphLeast'. -/
def topParagraphLeastCard : Claim7 := { stood := { row := topParagraphLeastRow, standIns := [], harness := (true, "e5ea6076a35f7a0c3ace5953e65f08dc6ea179081d429d4442dfb372ed8eb6da"), looks := true }, kinds := [], alts := [], laidByText := true, laidKinds := [.data, .pinned], laidTests := true, laidLooks := .later }
def TopParagraphLeastCardSaid : Prop := Claim7.holds Tryz.pinned (.plain (OpenSpec.ofChange topParagraphLeastSpec)) topParagraphLeastCard

/-- THE TIED CARD OF 'apographtop.TopTraced'. -/
def topTracedCard : Claim7 := { stood := { row := topTracedRow, standIns := [], harness := (true, "e5ea6076a35f7a0c3ace5953e65f08dc6ea179081d429d4442dfb372ed8eb6da"), looks := true }, kinds := [], alts := [], laidByText := true, laidKinds := [.data, .data, .data, .sentinel, .sentinel, .widerDeep], laidTests := true, laidLooks := .later }
def TopTracedCardSaid : Prop := Claim7.holds Tryz.pinned (.plain (OpenSpec.ofChange topTracedSpec)) topTracedCard

/-- THE SECOND FORM's CARD OF 'apographtop.TopParagraphLeast'. -/
def topParagraphLeastUptoCard : Claim7 := { stood := { row := topParagraphLeastUptoRow, standIns := [], harness := (true, "e5ea6076a35f7a0c3ace5953e65f08dc6ea179081d429d4442dfb372ed8eb6da"), looks := true }, kinds := [], alts := [], laidByText := true, laidKinds := [.data, .pinned], laidTests := true, laidLooks := .later }
def TopParagraphLeastUptoCardSaid : Prop := Claim7.holds Tryz.pinned (.plain (OpenSpec.upto topParagraphLeastSpec)) topParagraphLeastUptoCard

/-- THE SECOND FORM's CARD OF 'apographtop.TopTraced'. -/
def topTracedUptoCard : Claim7 := { stood := { row := topTracedUptoRow, standIns := [], harness := (true, "e5ea6076a35f7a0c3ace5953e65f08dc6ea179081d429d4442dfb372ed8eb6da"), looks := true }, kinds := [], alts := [], laidByText := true, laidKinds := [.data, .data, .data, .sentinel, .sentinel, .widerDeep], laidTests := true, laidLooks := .later }
def TopTracedUptoCardSaid : Prop := Claim7.holds Tryz.pinned (.plain (OpenSpec.upto topTracedSpec)) topTracedUptoCard
end Rows
end Go.Proofs.YtncjonkmhfdabaaGreatDoor
