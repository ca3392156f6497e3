/-
  DERIVED. GIVEN WITH THE SEED: THE CARDS: each row of YtieeggfkfgmdgaaGreatDoorRows.lean that lists a variable, with what it lists TIED to the program's text (the seventh form; the later family's looks); each row that meets fmt, with fmt's text TOLD by the authors' own Lean function (tested against real Go, not proved from fmt's source: count such statements apart). THE CARD IS WHAT COUNTS. Prove the row's statement (the work); the ties are given (YtieeggfkfgmdgaaGreatDoorTie.lean); close each card by the builder's one call (the guide's Derived/Test/ToyasCard.lean, 'card_holds'). Laid BY PROGRAM, IN A SANDBOX (cutbox-door.mjs). By AI agents, Wed Nov 11 2026. No macro, syntax, notation, axiom, sorry.
-/
import Derived.Test.YtieeggfkfgmdgaaGreatDoorRows
import GoSem.ClaimSeven
namespace Go.Proofs.YtieeggfkfgmdgaaGreatDoor
namespace Rows

/-- THE TIED CARD OF 'apographlaw15.TokenizerCharacters'. -/
def tokenizerCharactersCard : Claim7 := { stood := { row := tokenizerCharactersRow, standIns := [], harness := (true, "460440e23a74c064b0fe7a7b8bb87232e3838fb15c7aaf116c5631b4a716346e"), looks := true }, kinds := [], alts := [], laidByText := true, laidKinds := [.data, .data, .data, .data, .widerDeep, .pinned], laidTests := true, laidLooks := .later }
def TokenizerCharactersCardSaid : Prop := Claim7.holds Tryz.pinned (.plain (OpenSpec.ofChange tokenizerCharactersSpec)) tokenizerCharactersCard

/-- THE TIED CARD OF 'apographlaw15.TokenizerValid'. -/
def tokenizerValidCard : Claim7 := { stood := { row := tokenizerValidRow, standIns := [], harness := (true, "460440e23a74c064b0fe7a7b8bb87232e3838fb15c7aaf116c5631b4a716346e"), looks := true }, kinds := [], alts := [], laidByText := true, laidKinds := [.data, .data, .data, .sentinel, .sentinel, .widerDeep], laidTests := true, laidLooks := .later }
def TokenizerValidCardSaid : Prop := Claim7.holds Tryz.pinned (.plain (OpenSpec.ofChange tokenizerValidSpec)) tokenizerValidCard

/-- THE TIED CARD OF 'apographlaw15.TokenizerNorms'. -/
def tokenizerNormsCard : Claim7 := { stood := { row := tokenizerNormsRow, standIns := [], harness := (true, "460440e23a74c064b0fe7a7b8bb87232e3838fb15c7aaf116c5631b4a716346e"), looks := true }, kinds := [], alts := [], laidByText := true, laidKinds := [.data, .data, .data, .sentinel, .sentinel, .widerDeep], laidTests := true, laidLooks := .later }
def TokenizerNormsCardSaid : Prop := Claim7.holds Tryz.pinned (.plain (OpenSpec.ofChange tokenizerNormsSpec)) tokenizerNormsCard

/-- THE TIED CARD OF 'apographlaw15.TokenizerNames'. -/
def tokenizerNamesCard : Claim7 := { stood := { row := tokenizerNamesRow, standIns := [], harness := (true, "460440e23a74c064b0fe7a7b8bb87232e3838fb15c7aaf116c5631b4a716346e"), looks := true }, kinds := [], alts := [], laidByText := true, laidKinds := [.data, .data, .data, .widerDeep], laidTests := true, laidLooks := .later }
def TokenizerNamesCardSaid : Prop := Claim7.holds Tryz.pinned (.plain (OpenSpec.ofChange tokenizerNamesSpec)) tokenizerNamesCard

/-- THE TIED CARD OF 'apographlaw15.TokenizerReads'. -/
def tokenizerReadsCard : Claim7 := { stood := { row := tokenizerReadsRow, standIns := [], harness := (true, "460440e23a74c064b0fe7a7b8bb87232e3838fb15c7aaf116c5631b4a716346e"), looks := true }, kinds := [], alts := [], laidByText := true, laidKinds := [.data, .data, .data, .sentinel, .sentinel, .widerDeep], laidTests := true, laidLooks := .later }
def TokenizerReadsCardSaid : Prop := Claim7.holds Tryz.pinned (.plain (OpenSpec.ofChange tokenizerReadsSpec)) tokenizerReadsCard

/-- THE TIED CARD OF 'apographlaw15.TokenizerStrings'. -/
def tokenizerStringsCard : Claim7 := { stood := { row := tokenizerStringsRow, standIns := [], harness := (true, "460440e23a74c064b0fe7a7b8bb87232e3838fb15c7aaf116c5631b4a716346e"), looks := true }, kinds := [], alts := [], laidByText := true, laidKinds := [.data, .data, .data, .data, .sentinel, .sentinel, .listed, .data, .widerDeep, .pinned], laidTests := true, laidLooks := .later }
def TokenizerStringsCardSaid : Prop := Claim7.holds Tryz.pinned (.plain (OpenSpec.ofChange tokenizerStringsSpec)) tokenizerStringsCard

/-- THE SECOND FORM's CARD OF 'apographlaw15.TokenizerCharacters'. -/
def tokenizerCharactersUptoCard : Claim7 := { stood := { row := tokenizerCharactersUptoRow, standIns := [], harness := (true, "460440e23a74c064b0fe7a7b8bb87232e3838fb15c7aaf116c5631b4a716346e"), looks := true }, kinds := [], alts := [], laidByText := true, laidKinds := [.data, .data, .data, .data, .widerDeep, .pinned], laidTests := true, laidLooks := .later }
def TokenizerCharactersUptoCardSaid : Prop := Claim7.holds Tryz.pinned (.plain (OpenSpec.upto tokenizerCharactersSpec)) tokenizerCharactersUptoCard

/-- THE SECOND FORM's CARD OF 'apographlaw15.TokenizerValid'. -/
def tokenizerValidUptoCard : Claim7 := { stood := { row := tokenizerValidUptoRow, standIns := [], harness := (true, "460440e23a74c064b0fe7a7b8bb87232e3838fb15c7aaf116c5631b4a716346e"), looks := true }, kinds := [], alts := [], laidByText := true, laidKinds := [.data, .data, .data, .sentinel, .sentinel, .widerDeep], laidTests := true, laidLooks := .later }
def TokenizerValidUptoCardSaid : Prop := Claim7.holds Tryz.pinned (.plain (OpenSpec.upto tokenizerValidSpec)) tokenizerValidUptoCard

/-- THE SECOND FORM's CARD OF 'apographlaw15.TokenizerNorms'. -/
def tokenizerNormsUptoCard : Claim7 := { stood := { row := tokenizerNormsUptoRow, standIns := [], harness := (true, "460440e23a74c064b0fe7a7b8bb87232e3838fb15c7aaf116c5631b4a716346e"), looks := true }, kinds := [], alts := [], laidByText := true, laidKinds := [.data, .data, .data, .sentinel, .sentinel, .widerDeep], laidTests := true, laidLooks := .later }
def TokenizerNormsUptoCardSaid : Prop := Claim7.holds Tryz.pinned (.plain (OpenSpec.upto tokenizerNormsSpec)) tokenizerNormsUptoCard

/-- THE SECOND FORM's CARD OF 'apographlaw15.TokenizerNames'. -/
def tokenizerNamesUptoCard : Claim7 := { stood := { row := tokenizerNamesUptoRow, standIns := [], harness := (true, "460440e23a74c064b0fe7a7b8bb87232e3838fb15c7aaf116c5631b4a716346e"), looks := true }, kinds := [], alts := [], laidByText := true, laidKinds := [.data, .data, .data, .widerDeep], laidTests := true, laidLooks := .later }
def TokenizerNamesUptoCardSaid : Prop := Claim7.holds Tryz.pinned (.plain (OpenSpec.upto tokenizerNamesSpec)) tokenizerNamesUptoCard

/-- THE SECOND FORM's CARD OF 'apographlaw15.TokenizerReads'. -/
def tokenizerReadsUptoCard : Claim7 := { stood := { row := tokenizerReadsUptoRow, standIns := [], harness := (true, "460440e23a74c064b0fe7a7b8bb87232e3838fb15c7aaf116c5631b4a716346e"), looks := true }, kinds := [], alts := [], laidByText := true, laidKinds := [.data, .data, .data, .sentinel, .sentinel, .widerDeep], laidTests := true, laidLooks := .later }
def TokenizerReadsUptoCardSaid : Prop := Claim7.holds Tryz.pinned (.plain (OpenSpec.upto tokenizerReadsSpec)) tokenizerReadsUptoCard

/-- THE SECOND FORM's CARD OF 'apographlaw15.TokenizerStrings'. -/
def tokenizerStringsUptoCard : Claim7 := { stood := { row := tokenizerStringsUptoRow, standIns := [], harness := (true, "460440e23a74c064b0fe7a7b8bb87232e3838fb15c7aaf116c5631b4a716346e"), looks := true }, kinds := [], alts := [], laidByText := true, laidKinds := [.data, .data, .data, .data, .sentinel, .sentinel, .listed, .data, .widerDeep, .pinned], laidTests := true, laidLooks := .later }
def TokenizerStringsUptoCardSaid : Prop := Claim7.holds Tryz.pinned (.plain (OpenSpec.upto tokenizerStringsSpec)) tokenizerStringsUptoCard
end Rows
end Go.Proofs.YtieeggfkfgmdgaaGreatDoor
