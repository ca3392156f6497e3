/-
  DERIVED. GIVEN WITH THE SEED: THE CARDS: each row of YtdbpliomkkmoaaaGreatDoorRows.lean that lists a variable, with what it lists TIED to the program's text (the seventh form; the later family's looks); each row that meets fmt, with fmt's text TOLD by the authors' own Lean function (tested against real Go, not proved from fmt's source: count such statements apart). THE CARD IS WHAT COUNTS. Prove the row's statement (the work); the ties are given (YtdbpliomkkmoaaaGreatDoorTie.lean); close each card by the builder's one call (the guide's Derived/Test/ToyasCard.lean, 'card_holds'). Laid BY PROGRAM, IN A SANDBOX (cutbox-door.mjs). By AI agents, Wed Nov 11 2026. No macro, syntax, notation, axiom, sorry.
-/
import Derived.Test.YtdbpliomkkmoaaaGreatDoorRows
import GoSem.ClaimSeven
namespace Go.Proofs.YtdbpliomkkmoaaaGreatDoor
namespace Rows

/-- THE TIED CARD OF 'apographlaw09.MarkupScans'. -/
def markupScansCard : Claim7 := { stood := { row := markupScansRow, standIns := [], harness := (true, "82a3b30575fc92a8bf012a1c3ff3c1989bcecbf15a93a6962e0c216347568ff5"), looks := true }, kinds := [], alts := [], laidByText := true, laidKinds := [.data, .data, .data, .sentinel, .sentinel], laidTests := true, laidLooks := .later }
def MarkupScansCardSaid : Prop := Claim7.holds Tryz.pinned (.plain (OpenSpec.ofChange markupScansSpec)) markupScansCard

/-- THE TIED CARD OF 'apographlaw09.MarkupChecks'. -/
def markupChecksCard : Claim7 := { stood := { row := markupChecksRow, standIns := [], harness := (true, "82a3b30575fc92a8bf012a1c3ff3c1989bcecbf15a93a6962e0c216347568ff5"), looks := true }, kinds := [], alts := [], laidByText := true, laidKinds := [.data, .data, .data, .sentinel, .sentinel], laidTests := true, laidLooks := .later }
def MarkupChecksCardSaid : Prop := Claim7.holds Tryz.pinned (.plain (OpenSpec.ofChange markupChecksSpec)) markupChecksCard

/-- THE SECOND FORM's CARD OF 'apographlaw09.MarkupScans'. -/
def markupScansUptoCard : Claim7 := { stood := { row := markupScansUptoRow, standIns := [], harness := (true, "82a3b30575fc92a8bf012a1c3ff3c1989bcecbf15a93a6962e0c216347568ff5"), looks := true }, kinds := [], alts := [], laidByText := true, laidKinds := [.data, .data, .data, .sentinel, .sentinel], laidTests := true, laidLooks := .later }
def MarkupScansUptoCardSaid : Prop := Claim7.holds Tryz.pinned (.plain (OpenSpec.upto markupScansSpec)) markupScansUptoCard

/-- THE SECOND FORM's CARD OF 'apographlaw09.MarkupChecks'. -/
def markupChecksUptoCard : Claim7 := { stood := { row := markupChecksUptoRow, standIns := [], harness := (true, "82a3b30575fc92a8bf012a1c3ff3c1989bcecbf15a93a6962e0c216347568ff5"), looks := true }, kinds := [], alts := [], laidByText := true, laidKinds := [.data, .data, .data, .sentinel, .sentinel], laidTests := true, laidLooks := .later }
def MarkupChecksUptoCardSaid : Prop := Claim7.holds Tryz.pinned (.plain (OpenSpec.upto markupChecksSpec)) markupChecksUptoCard
end Rows
end Go.Proofs.YtdbpliomkkmoaaaGreatDoor
