/-
  DERIVED. GIVEN WITH THE SEED: THE CARDS: each row of YtpnhhkjagkajoaaGreatDoorRows.lean that lists a variable, with what it lists TIED to the program's text (the seventh form; the later family's looks); each row that meets fmt, with fmt's text TOLD by the authors' own Lean function (tested against real Go, not proved from fmt's source: count such statements apart). THE CARD IS WHAT COUNTS. Prove the row's statement (the work); the ties are given (YtpnhhkjagkajoaaGreatDoorTie.lean); close each card by the builder's one call (the guide's Derived/Test/ToyasCard.lean, 'card_holds'). Laid BY PROGRAM, IN A SANDBOX (cutbox-door.mjs). By AI agents, Wed Nov 11 2026. No macro, syntax, notation, axiom, sorry.
-/
import Derived.Test.YtpnhhkjagkajoaaGreatDoorRows
import GoSem.ClaimSeven
namespace Go.Proofs.YtpnhhkjagkajoaaGreatDoor
namespace Rows

/-- THE TIED CARD OF 'apographlaw10.TranscriptReads'. -/
def transcriptReadsCard : Claim7 := { stood := { row := transcriptReadsRow, standIns := [], harness := (true, "f537acae263311b97f2ce103234ffab7ad3e5e101178a017825de2a28091b01f"), looks := true }, kinds := [], alts := [], laidByText := true, laidKinds := [.data, .data, .data, .sentinel, .sentinel, .widerDeep], laidTests := true, laidLooks := .later }
def TranscriptReadsCardSaid : Prop := Claim7.holds Tryz.pinned (.plain (OpenSpec.ofChange transcriptReadsSpec)) transcriptReadsCard

/-- THE TIED CARD OF 'apographlaw10.TranscriptBack'. -/
def transcriptBackCard : Claim7 := { stood := { row := transcriptBackRow, standIns := [], harness := (true, "f537acae263311b97f2ce103234ffab7ad3e5e101178a017825de2a28091b01f"), looks := true }, kinds := [], alts := [], laidByText := true, laidKinds := [.data, .data, .data, .sentinel, .sentinel, .widerDeep], laidTests := true, laidLooks := .later }
def TranscriptBackCardSaid : Prop := Claim7.holds Tryz.pinned (.plain (OpenSpec.ofChange transcriptBackSpec)) transcriptBackCard

/-- THE TIED CARD OF 'apographlaw10.TranscriptWraps'. -/
def transcriptWrapsCard : Claim7 := { stood := { row := transcriptWrapsRow, standIns := [], harness := (true, "f537acae263311b97f2ce103234ffab7ad3e5e101178a017825de2a28091b01f"), looks := true }, kinds := [], alts := [], laidByText := true, laidKinds := [.data, .data, .data, .sentinel, .sentinel, .widerDeep], laidTests := true, laidLooks := .later }
def TranscriptWrapsCardSaid : Prop := Claim7.holds Tryz.pinned (.plain (OpenSpec.ofChange transcriptWrapsSpec)) transcriptWrapsCard

/-- THE TIED CARD OF 'apographlaw10.TranscriptMerges'. -/
def transcriptMergesCard : Claim7 := { stood := { row := transcriptMergesRow, standIns := [], harness := (true, "f537acae263311b97f2ce103234ffab7ad3e5e101178a017825de2a28091b01f"), looks := true }, kinds := [], alts := [], laidByText := true, laidKinds := [.data, .data, .data, .sentinel, .sentinel, .widerDeep], laidTests := true, laidLooks := .later }
def TranscriptMergesCardSaid : Prop := Claim7.holds Tryz.pinned (.plain (OpenSpec.ofChange transcriptMergesSpec)) transcriptMergesCard

/-- THE TIED CARD OF 'apographlaw10.TranscriptLexemes'. -/
def transcriptLexemesCard : Claim7 := { stood := { row := transcriptLexemesRow, standIns := [], harness := (true, "f537acae263311b97f2ce103234ffab7ad3e5e101178a017825de2a28091b01f"), looks := true }, kinds := [], alts := [], laidByText := true, laidKinds := [.data, .data, .data, .sentinel, .sentinel, .widerDeep], laidTests := true, laidLooks := .later }
def TranscriptLexemesCardSaid : Prop := Claim7.holds Tryz.pinned (.plain (OpenSpec.ofChange transcriptLexemesSpec)) transcriptLexemesCard

/-- THE TIED CARD OF 'apographlaw10.TranscriptNodes'. -/
def transcriptNodesCard : Claim7 := { stood := { row := transcriptNodesRow, standIns := [], harness := (true, "f537acae263311b97f2ce103234ffab7ad3e5e101178a017825de2a28091b01f"), looks := true }, kinds := [], alts := [], laidByText := true, laidKinds := [.data, .data, .data, .sentinel, .sentinel, .widerDeep], laidTests := true, laidLooks := .later }
def TranscriptNodesCardSaid : Prop := Claim7.holds Tryz.pinned (.plain (OpenSpec.ofChange transcriptNodesSpec)) transcriptNodesCard

/-- THE TIED CARD OF 'apographlaw10.TranscriptJoins'. -/
def transcriptJoinsCard : Claim7 := { stood := { row := transcriptJoinsRow, standIns := [], harness := (true, "f537acae263311b97f2ce103234ffab7ad3e5e101178a017825de2a28091b01f"), looks := true }, kinds := [], alts := [], laidByText := true, laidKinds := [.data, .data, .data, .sentinel, .sentinel, .widerDeep], laidTests := true, laidLooks := .later }
def TranscriptJoinsCardSaid : Prop := Claim7.holds Tryz.pinned (.plain (OpenSpec.ofChange transcriptJoinsSpec)) transcriptJoinsCard

/-- THE SECOND FORM's CARD OF 'apographlaw10.TranscriptReads'. -/
def transcriptReadsUptoCard : Claim7 := { stood := { row := transcriptReadsUptoRow, standIns := [], harness := (true, "f537acae263311b97f2ce103234ffab7ad3e5e101178a017825de2a28091b01f"), looks := true }, kinds := [], alts := [], laidByText := true, laidKinds := [.data, .data, .data, .sentinel, .sentinel, .widerDeep], laidTests := true, laidLooks := .later }
def TranscriptReadsUptoCardSaid : Prop := Claim7.holds Tryz.pinned (.plain (OpenSpec.upto transcriptReadsSpec)) transcriptReadsUptoCard

/-- THE SECOND FORM's CARD OF 'apographlaw10.TranscriptBack'. -/
def transcriptBackUptoCard : Claim7 := { stood := { row := transcriptBackUptoRow, standIns := [], harness := (true, "f537acae263311b97f2ce103234ffab7ad3e5e101178a017825de2a28091b01f"), looks := true }, kinds := [], alts := [], laidByText := true, laidKinds := [.data, .data, .data, .sentinel, .sentinel, .widerDeep], laidTests := true, laidLooks := .later }
def TranscriptBackUptoCardSaid : Prop := Claim7.holds Tryz.pinned (.plain (OpenSpec.upto transcriptBackSpec)) transcriptBackUptoCard

/-- THE SECOND FORM's CARD OF 'apographlaw10.TranscriptWraps'. -/
def transcriptWrapsUptoCard : Claim7 := { stood := { row := transcriptWrapsUptoRow, standIns := [], harness := (true, "f537acae263311b97f2ce103234ffab7ad3e5e101178a017825de2a28091b01f"), looks := true }, kinds := [], alts := [], laidByText := true, laidKinds := [.data, .data, .data, .sentinel, .sentinel, .widerDeep], laidTests := true, laidLooks := .later }
def TranscriptWrapsUptoCardSaid : Prop := Claim7.holds Tryz.pinned (.plain (OpenSpec.upto transcriptWrapsSpec)) transcriptWrapsUptoCard

/-- THE SECOND FORM's CARD OF 'apographlaw10.TranscriptMerges'. -/
def transcriptMergesUptoCard : Claim7 := { stood := { row := transcriptMergesUptoRow, standIns := [], harness := (true, "f537acae263311b97f2ce103234ffab7ad3e5e101178a017825de2a28091b01f"), looks := true }, kinds := [], alts := [], laidByText := true, laidKinds := [.data, .data, .data, .sentinel, .sentinel, .widerDeep], laidTests := true, laidLooks := .later }
def TranscriptMergesUptoCardSaid : Prop := Claim7.holds Tryz.pinned (.plain (OpenSpec.upto transcriptMergesSpec)) transcriptMergesUptoCard

/-- THE SECOND FORM's CARD OF 'apographlaw10.TranscriptLexemes'. -/
def transcriptLexemesUptoCard : Claim7 := { stood := { row := transcriptLexemesUptoRow, standIns := [], harness := (true, "f537acae263311b97f2ce103234ffab7ad3e5e101178a017825de2a28091b01f"), looks := true }, kinds := [], alts := [], laidByText := true, laidKinds := [.data, .data, .data, .sentinel, .sentinel, .widerDeep], laidTests := true, laidLooks := .later }
def TranscriptLexemesUptoCardSaid : Prop := Claim7.holds Tryz.pinned (.plain (OpenSpec.upto transcriptLexemesSpec)) transcriptLexemesUptoCard

/-- THE SECOND FORM's CARD OF 'apographlaw10.TranscriptNodes'. -/
def transcriptNodesUptoCard : Claim7 := { stood := { row := transcriptNodesUptoRow, standIns := [], harness := (true, "f537acae263311b97f2ce103234ffab7ad3e5e101178a017825de2a28091b01f"), looks := true }, kinds := [], alts := [], laidByText := true, laidKinds := [.data, .data, .data, .sentinel, .sentinel, .widerDeep], laidTests := true, laidLooks := .later }
def TranscriptNodesUptoCardSaid : Prop := Claim7.holds Tryz.pinned (.plain (OpenSpec.upto transcriptNodesSpec)) transcriptNodesUptoCard

/-- THE SECOND FORM's CARD OF 'apographlaw10.TranscriptJoins'. -/
def transcriptJoinsUptoCard : Claim7 := { stood := { row := transcriptJoinsUptoRow, standIns := [], harness := (true, "f537acae263311b97f2ce103234ffab7ad3e5e101178a017825de2a28091b01f"), looks := true }, kinds := [], alts := [], laidByText := true, laidKinds := [.data, .data, .data, .sentinel, .sentinel, .widerDeep], laidTests := true, laidLooks := .later }
def TranscriptJoinsUptoCardSaid : Prop := Claim7.holds Tryz.pinned (.plain (OpenSpec.upto transcriptJoinsSpec)) transcriptJoinsUptoCard
end Rows
end Go.Proofs.YtpnhhkjagkajoaaGreatDoor
