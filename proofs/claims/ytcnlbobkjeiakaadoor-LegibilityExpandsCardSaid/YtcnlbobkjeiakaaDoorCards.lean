/-
  DERIVED. GIVEN WITH THE SEED: THE CARDS: each row of YtcnlbobkjeiakaaDoorRows.lean that lists a variable, with what it lists TIED to the program's text (the seventh form; the later family's looks); each row that meets fmt, with fmt's text TOLD by the authors' own Lean function (tested against real Go, not proved from fmt's source: count such statements apart). THE CARD IS WHAT COUNTS. Prove the row's statement (the work); the ties are given (YtcnlbobkjeiakaaDoorTie.lean); close each card by the builder's one call (the guide's Derived/Test/ToyasCard.lean, 'card_holds'). Laid BY PROGRAM, IN A SANDBOX (cutbox-door.mjs). By AI agents, Wed Nov 11 2026. No macro, syntax, notation, axiom, sorry.
-/
import Derived.Test.YtcnlbobkjeiakaaDoorRows
import GoSem.ClaimSeven
namespace Go.Proofs.YtcnlbobkjeiakaaDoor
namespace Rows

/-- THE TIED CARD OF 'apographlaw12.LegibilityWriting'. -/
def legibilityWritingCard : Claim7 := { stood := { row := legibilityWritingRow, standIns := [], harness := (true, "7a1bdef6f0d0a0895c870c2804dbf30dfeedf439bc8c0e63f92a6aaedb6b38a9"), looks := false }, kinds := [], alts := [], laidByText := true, laidKinds := [.data, .data, .data, .widerDeep], laidTests := true, laidLooks := .later }
def LegibilityWritingCardSaid : Prop := Claim7.holds Tryd.pinned (.plain (OpenSpec.ofChange legibilityWritingSpec)) legibilityWritingCard

/-- THE TIED CARD OF 'apographlaw12.LegibilityReads'. -/
def legibilityReadsCard : Claim7 := { stood := { row := legibilityReadsRow, standIns := [], harness := (true, "7a1bdef6f0d0a0895c870c2804dbf30dfeedf439bc8c0e63f92a6aaedb6b38a9"), looks := false }, kinds := [], alts := [], laidByText := true, laidKinds := [.data, .data, .data, .widerDeep], laidTests := true, laidLooks := .later }
def LegibilityReadsCardSaid : Prop := Claim7.holds Tryd.pinned (.plain (OpenSpec.ofChange legibilityReadsSpec)) legibilityReadsCard

/-- THE TIED CARD OF 'apographlaw12.LegibilityUnclear'. -/
def legibilityUnclearCard : Claim7 := { stood := { row := legibilityUnclearRow, standIns := [], harness := (true, "7a1bdef6f0d0a0895c870c2804dbf30dfeedf439bc8c0e63f92a6aaedb6b38a9"), looks := false }, kinds := [], alts := [], laidByText := true, laidKinds := [.data, .data, .data, .widerDeep], laidTests := true, laidLooks := .later }
def LegibilityUnclearCardSaid : Prop := Claim7.holds Tryd.pinned (.plain (OpenSpec.ofChange legibilityUnclearSpec)) legibilityUnclearCard

/-- THE TIED CARD OF 'apographlaw12.LegibilityPairs'. -/
def legibilityPairsCard : Claim7 := { stood := { row := legibilityPairsRow, standIns := [], harness := (true, "7a1bdef6f0d0a0895c870c2804dbf30dfeedf439bc8c0e63f92a6aaedb6b38a9"), looks := false }, kinds := [], alts := [], laidByText := true, laidKinds := [.data, .data, .data, .widerDeep], laidTests := true, laidLooks := .later }
def LegibilityPairsCardSaid : Prop := Claim7.holds Tryd.pinned (.plain (OpenSpec.ofChange legibilityPairsSpec)) legibilityPairsCard

/-- THE TIED CARD OF 'apographlaw12.LegibilityExpands'. -/
def legibilityExpandsCard : Claim7 := { stood := { row := legibilityExpandsRow, standIns := [], harness := (true, "7a1bdef6f0d0a0895c870c2804dbf30dfeedf439bc8c0e63f92a6aaedb6b38a9"), looks := false }, kinds := [], alts := [], laidByText := true, laidKinds := [.data, .data, .data, .widerDeep], laidTests := true, laidLooks := .later }
def LegibilityExpandsCardSaid : Prop := Claim7.holds Tryd.pinned (.plain (OpenSpec.ofChange legibilityExpandsSpec)) legibilityExpandsCard

/-- THE TIED CARD OF 'apographlaw12.LegibilitySupplies'. -/
def legibilitySuppliesCard : Claim7 := { stood := { row := legibilitySuppliesRow, standIns := [], harness := (true, "7a1bdef6f0d0a0895c870c2804dbf30dfeedf439bc8c0e63f92a6aaedb6b38a9"), looks := false }, kinds := [], alts := [], laidByText := true, laidKinds := [.data, .data, .data, .widerDeep], laidTests := true, laidLooks := .later }
def LegibilitySuppliesCardSaid : Prop := Claim7.holds Tryd.pinned (.plain (OpenSpec.ofChange legibilitySuppliesSpec)) legibilitySuppliesCard

/-- THE TIED CARD OF 'apographlaw12.LegibilityFits'. -/
def legibilityFitsCard : Claim7 := { stood := { row := legibilityFitsRow, standIns := [], harness := (true, "7a1bdef6f0d0a0895c870c2804dbf30dfeedf439bc8c0e63f92a6aaedb6b38a9"), looks := false }, kinds := [], alts := [], laidByText := true, laidKinds := [.data, .data, .data, .widerDeep], laidTests := true, laidLooks := .later }
def LegibilityFitsCardSaid : Prop := Claim7.holds Tryd.pinned (.plain (OpenSpec.ofChange legibilityFitsSpec)) legibilityFitsCard

/-- THE TIED CARD OF 'apographlaw12.LegibilityPatterns'. -/
def legibilityPatternsCard : Claim7 := { stood := { row := legibilityPatternsRow, standIns := [], harness := (true, "7a1bdef6f0d0a0895c870c2804dbf30dfeedf439bc8c0e63f92a6aaedb6b38a9"), looks := false }, kinds := [], alts := [], laidByText := true, laidKinds := [.data, .data, .data, .data, .widerDeep, .pinned], laidTests := true, laidLooks := .later }
def LegibilityPatternsCardSaid : Prop := Claim7.holds Tryd.pinned (.plain (OpenSpec.ofChange legibilityPatternsSpec)) legibilityPatternsCard

/-- THE SECOND FORM's CARD OF 'apographlaw12.LegibilityWriting'. -/
def legibilityWritingUptoCard : Claim7 := { stood := { row := legibilityWritingUptoRow, standIns := [], harness := (true, "7a1bdef6f0d0a0895c870c2804dbf30dfeedf439bc8c0e63f92a6aaedb6b38a9"), looks := false }, kinds := [], alts := [], laidByText := true, laidKinds := [.data, .data, .data, .widerDeep], laidTests := true, laidLooks := .later }
def LegibilityWritingUptoCardSaid : Prop := Claim7.holds Tryd.pinned (.plain (OpenSpec.upto legibilityWritingSpec)) legibilityWritingUptoCard

/-- THE SECOND FORM's CARD OF 'apographlaw12.LegibilityReads'. -/
def legibilityReadsUptoCard : Claim7 := { stood := { row := legibilityReadsUptoRow, standIns := [], harness := (true, "7a1bdef6f0d0a0895c870c2804dbf30dfeedf439bc8c0e63f92a6aaedb6b38a9"), looks := false }, kinds := [], alts := [], laidByText := true, laidKinds := [.data, .data, .data, .widerDeep], laidTests := true, laidLooks := .later }
def LegibilityReadsUptoCardSaid : Prop := Claim7.holds Tryd.pinned (.plain (OpenSpec.upto legibilityReadsSpec)) legibilityReadsUptoCard

/-- THE SECOND FORM's CARD OF 'apographlaw12.LegibilityUnclear'. -/
def legibilityUnclearUptoCard : Claim7 := { stood := { row := legibilityUnclearUptoRow, standIns := [], harness := (true, "7a1bdef6f0d0a0895c870c2804dbf30dfeedf439bc8c0e63f92a6aaedb6b38a9"), looks := false }, kinds := [], alts := [], laidByText := true, laidKinds := [.data, .data, .data, .widerDeep], laidTests := true, laidLooks := .later }
def LegibilityUnclearUptoCardSaid : Prop := Claim7.holds Tryd.pinned (.plain (OpenSpec.upto legibilityUnclearSpec)) legibilityUnclearUptoCard

/-- THE SECOND FORM's CARD OF 'apographlaw12.LegibilityPairs'. -/
def legibilityPairsUptoCard : Claim7 := { stood := { row := legibilityPairsUptoRow, standIns := [], harness := (true, "7a1bdef6f0d0a0895c870c2804dbf30dfeedf439bc8c0e63f92a6aaedb6b38a9"), looks := false }, kinds := [], alts := [], laidByText := true, laidKinds := [.data, .data, .data, .widerDeep], laidTests := true, laidLooks := .later }
def LegibilityPairsUptoCardSaid : Prop := Claim7.holds Tryd.pinned (.plain (OpenSpec.upto legibilityPairsSpec)) legibilityPairsUptoCard

/-- THE SECOND FORM's CARD OF 'apographlaw12.LegibilityExpands'. -/
def legibilityExpandsUptoCard : Claim7 := { stood := { row := legibilityExpandsUptoRow, standIns := [], harness := (true, "7a1bdef6f0d0a0895c870c2804dbf30dfeedf439bc8c0e63f92a6aaedb6b38a9"), looks := false }, kinds := [], alts := [], laidByText := true, laidKinds := [.data, .data, .data, .widerDeep], laidTests := true, laidLooks := .later }
def LegibilityExpandsUptoCardSaid : Prop := Claim7.holds Tryd.pinned (.plain (OpenSpec.upto legibilityExpandsSpec)) legibilityExpandsUptoCard

/-- THE SECOND FORM's CARD OF 'apographlaw12.LegibilitySupplies'. -/
def legibilitySuppliesUptoCard : Claim7 := { stood := { row := legibilitySuppliesUptoRow, standIns := [], harness := (true, "7a1bdef6f0d0a0895c870c2804dbf30dfeedf439bc8c0e63f92a6aaedb6b38a9"), looks := false }, kinds := [], alts := [], laidByText := true, laidKinds := [.data, .data, .data, .widerDeep], laidTests := true, laidLooks := .later }
def LegibilitySuppliesUptoCardSaid : Prop := Claim7.holds Tryd.pinned (.plain (OpenSpec.upto legibilitySuppliesSpec)) legibilitySuppliesUptoCard

/-- THE SECOND FORM's CARD OF 'apographlaw12.LegibilityFits'. -/
def legibilityFitsUptoCard : Claim7 := { stood := { row := legibilityFitsUptoRow, standIns := [], harness := (true, "7a1bdef6f0d0a0895c870c2804dbf30dfeedf439bc8c0e63f92a6aaedb6b38a9"), looks := false }, kinds := [], alts := [], laidByText := true, laidKinds := [.data, .data, .data, .widerDeep], laidTests := true, laidLooks := .later }
def LegibilityFitsUptoCardSaid : Prop := Claim7.holds Tryd.pinned (.plain (OpenSpec.upto legibilityFitsSpec)) legibilityFitsUptoCard

/-- THE SECOND FORM's CARD OF 'apographlaw12.LegibilityPatterns'. -/
def legibilityPatternsUptoCard : Claim7 := { stood := { row := legibilityPatternsUptoRow, standIns := [], harness := (true, "7a1bdef6f0d0a0895c870c2804dbf30dfeedf439bc8c0e63f92a6aaedb6b38a9"), looks := false }, kinds := [], alts := [], laidByText := true, laidKinds := [.data, .data, .data, .data, .widerDeep, .pinned], laidTests := true, laidLooks := .later }
def LegibilityPatternsUptoCardSaid : Prop := Claim7.holds Tryd.pinned (.plain (OpenSpec.upto legibilityPatternsSpec)) legibilityPatternsUptoCard
end Rows
end Go.Proofs.YtcnlbobkjeiakaaDoor
