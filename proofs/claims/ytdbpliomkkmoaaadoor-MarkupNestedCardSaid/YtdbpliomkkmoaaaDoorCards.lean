/-
  DERIVED. GIVEN WITH THE SEED: THE CARDS: each row of YtdbpliomkkmoaaaDoorRows.lean that lists a variable, with what it lists TIED to the program's text (the seventh form; the later family's looks); each row that meets fmt, with fmt's text TOLD by the authors' own Lean function (tested against real Go, not proved from fmt's source: count such statements apart). THE CARD IS WHAT COUNTS. Prove the row's statement (the work); the ties are given (YtdbpliomkkmoaaaDoorTie.lean); close each card by the builder's one call (the guide's Derived/Test/ToyasCard.lean, 'card_holds'). Laid BY PROGRAM, IN A SANDBOX (cutbox-door.mjs). By AI agents, Wed Nov 11 2026. No macro, syntax, notation, axiom, sorry.
-/
import Derived.Test.YtdbpliomkkmoaaaDoorRows
import GoSem.ClaimSeven
namespace Go.Proofs.YtdbpliomkkmoaaaDoor
namespace Rows

/-- THE TIED CARD OF 'apographlaw09.MarkupLossless'. -/
def markupLosslessCard : Claim7 := { stood := { row := markupLosslessRow, standIns := [], harness := (true, "60c8e8551af19265f5654ff80ce4344bbf7566c430a116b8e9a8de620637b5c4"), looks := true }, kinds := [], alts := [], laidByText := true, laidKinds := [.data, .data, .data, .sentinel, .sentinel], laidTests := true, laidLooks := .later }
def MarkupLosslessCardSaid : Prop := Claim7.holds Tryd.pinned (.plain (OpenSpec.ofChange markupLosslessSpec)) markupLosslessCard

/-- THE TIED CARD OF 'apographlaw09.MarkupStrips'. -/
def markupStripsCard : Claim7 := { stood := { row := markupStripsRow, standIns := [], harness := (true, "60c8e8551af19265f5654ff80ce4344bbf7566c430a116b8e9a8de620637b5c4"), looks := true }, kinds := [], alts := [], laidByText := true, laidKinds := [.data, .data, .data, .sentinel, .sentinel], laidTests := true, laidLooks := .later }
def MarkupStripsCardSaid : Prop := Claim7.holds Tryd.pinned (.plain (OpenSpec.ofChange markupStripsSpec)) markupStripsCard

/-- THE TIED CARD OF 'apographlaw09.MarkupTags'. -/
def markupTagsCard : Claim7 := { stood := { row := markupTagsRow, standIns := [], harness := (true, "60c8e8551af19265f5654ff80ce4344bbf7566c430a116b8e9a8de620637b5c4"), looks := true }, kinds := [], alts := [], laidByText := true, laidKinds := [.data, .data, .data, .sentinel, .sentinel], laidTests := true, laidLooks := .later }
def MarkupTagsCardSaid : Prop := Claim7.holds Tryd.pinned (.plain (OpenSpec.ofChange markupTagsSpec)) markupTagsCard

/-- THE TIED CARD OF 'apographlaw09.MarkupOffsets'. -/
def markupOffsetsCard : Claim7 := { stood := { row := markupOffsetsRow, standIns := [], harness := (true, "60c8e8551af19265f5654ff80ce4344bbf7566c430a116b8e9a8de620637b5c4"), looks := true }, kinds := [], alts := [], laidByText := true, laidKinds := [.data, .data, .data, .sentinel, .sentinel], laidTests := true, laidLooks := .later }
def MarkupOffsetsCardSaid : Prop := Claim7.holds Tryd.pinned (.plain (OpenSpec.ofChange markupOffsetsSpec)) markupOffsetsCard

/-- THE TIED CARD OF 'apographlaw09.MarkupJoined'. -/
def markupJoinedCard : Claim7 := { stood := { row := markupJoinedRow, standIns := [], harness := (true, "60c8e8551af19265f5654ff80ce4344bbf7566c430a116b8e9a8de620637b5c4"), looks := true }, kinds := [], alts := [], laidByText := true, laidKinds := [.data, .data, .data, .sentinel, .sentinel], laidTests := true, laidLooks := .later }
def MarkupJoinedCardSaid : Prop := Claim7.holds Tryd.pinned (.plain (OpenSpec.ofChange markupJoinedSpec)) markupJoinedCard

/-- THE TIED CARD OF 'apographlaw09.MarkupNested'. -/
def markupNestedCard : Claim7 := { stood := { row := markupNestedRow, standIns := [], harness := (true, "60c8e8551af19265f5654ff80ce4344bbf7566c430a116b8e9a8de620637b5c4"), looks := true }, kinds := [], alts := [], laidByText := true, laidKinds := [.data, .data, .data, .sentinel, .sentinel], laidTests := true, laidLooks := .later }
def MarkupNestedCardSaid : Prop := Claim7.holds Tryd.pinned (.plain (OpenSpec.ofChange markupNestedSpec)) markupNestedCard

/-- THE SECOND FORM's CARD OF 'apographlaw09.MarkupLossless'. -/
def markupLosslessUptoCard : Claim7 := { stood := { row := markupLosslessUptoRow, standIns := [], harness := (true, "60c8e8551af19265f5654ff80ce4344bbf7566c430a116b8e9a8de620637b5c4"), looks := true }, kinds := [], alts := [], laidByText := true, laidKinds := [.data, .data, .data, .sentinel, .sentinel], laidTests := true, laidLooks := .later }
def MarkupLosslessUptoCardSaid : Prop := Claim7.holds Tryd.pinned (.plain (OpenSpec.upto markupLosslessSpec)) markupLosslessUptoCard

/-- THE SECOND FORM's CARD OF 'apographlaw09.MarkupStrips'. -/
def markupStripsUptoCard : Claim7 := { stood := { row := markupStripsUptoRow, standIns := [], harness := (true, "60c8e8551af19265f5654ff80ce4344bbf7566c430a116b8e9a8de620637b5c4"), looks := true }, kinds := [], alts := [], laidByText := true, laidKinds := [.data, .data, .data, .sentinel, .sentinel], laidTests := true, laidLooks := .later }
def MarkupStripsUptoCardSaid : Prop := Claim7.holds Tryd.pinned (.plain (OpenSpec.upto markupStripsSpec)) markupStripsUptoCard

/-- THE SECOND FORM's CARD OF 'apographlaw09.MarkupTags'. -/
def markupTagsUptoCard : Claim7 := { stood := { row := markupTagsUptoRow, standIns := [], harness := (true, "60c8e8551af19265f5654ff80ce4344bbf7566c430a116b8e9a8de620637b5c4"), looks := true }, kinds := [], alts := [], laidByText := true, laidKinds := [.data, .data, .data, .sentinel, .sentinel], laidTests := true, laidLooks := .later }
def MarkupTagsUptoCardSaid : Prop := Claim7.holds Tryd.pinned (.plain (OpenSpec.upto markupTagsSpec)) markupTagsUptoCard

/-- THE SECOND FORM's CARD OF 'apographlaw09.MarkupOffsets'. -/
def markupOffsetsUptoCard : Claim7 := { stood := { row := markupOffsetsUptoRow, standIns := [], harness := (true, "60c8e8551af19265f5654ff80ce4344bbf7566c430a116b8e9a8de620637b5c4"), looks := true }, kinds := [], alts := [], laidByText := true, laidKinds := [.data, .data, .data, .sentinel, .sentinel], laidTests := true, laidLooks := .later }
def MarkupOffsetsUptoCardSaid : Prop := Claim7.holds Tryd.pinned (.plain (OpenSpec.upto markupOffsetsSpec)) markupOffsetsUptoCard

/-- THE SECOND FORM's CARD OF 'apographlaw09.MarkupJoined'. -/
def markupJoinedUptoCard : Claim7 := { stood := { row := markupJoinedUptoRow, standIns := [], harness := (true, "60c8e8551af19265f5654ff80ce4344bbf7566c430a116b8e9a8de620637b5c4"), looks := true }, kinds := [], alts := [], laidByText := true, laidKinds := [.data, .data, .data, .sentinel, .sentinel], laidTests := true, laidLooks := .later }
def MarkupJoinedUptoCardSaid : Prop := Claim7.holds Tryd.pinned (.plain (OpenSpec.upto markupJoinedSpec)) markupJoinedUptoCard

/-- THE SECOND FORM's CARD OF 'apographlaw09.MarkupNested'. -/
def markupNestedUptoCard : Claim7 := { stood := { row := markupNestedUptoRow, standIns := [], harness := (true, "60c8e8551af19265f5654ff80ce4344bbf7566c430a116b8e9a8de620637b5c4"), looks := true }, kinds := [], alts := [], laidByText := true, laidKinds := [.data, .data, .data, .sentinel, .sentinel], laidTests := true, laidLooks := .later }
def MarkupNestedUptoCardSaid : Prop := Claim7.holds Tryd.pinned (.plain (OpenSpec.upto markupNestedSpec)) markupNestedUptoCard
end Rows
end Go.Proofs.YtdbpliomkkmoaaaDoor
