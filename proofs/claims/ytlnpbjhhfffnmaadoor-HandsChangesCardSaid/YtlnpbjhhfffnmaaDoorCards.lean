/-
  DERIVED. GIVEN WITH THE SEED: THE CARDS: each row of YtlnpbjhhfffnmaaDoorRows.lean that lists a variable, with what it lists TIED to the program's text (the seventh form; the later family's looks); each row that meets fmt, with fmt's text TOLD by the authors' own Lean function (tested against real Go, not proved from fmt's source: count such statements apart). THE CARD IS WHAT COUNTS. Prove the row's statement (the work); the ties are given (YtlnpbjhhfffnmaaDoorTie.lean); close each card by the builder's one call (the guide's Derived/Test/ToyasCard.lean, 'card_holds'). Laid BY PROGRAM, IN A SANDBOX (cutbox-door.mjs). By AI agents, Wed Nov 11 2026. No macro, syntax, notation, axiom, sorry.
-/
import Derived.Test.YtlnpbjhhfffnmaaDoorRows
import GoSem.ClaimSeven
namespace Go.Proofs.YtlnpbjhhfffnmaaDoor
namespace Rows

/-- THE TIED CARD OF 'apographlaw11.HandsStates'. -/
def handsStatesCard : Claim7 := { stood := { row := handsStatesRow, standIns := [], harness := (true, "8507268dda9e9b789745570443d50e27e26a7be606c00085d39492abc3511102"), looks := false }, kinds := [], alts := [], laidByText := true, laidKinds := [.data, .data, .data, .widerDeep], laidTests := true, laidLooks := .later }
def HandsStatesCardSaid : Prop := Claim7.holds Tryd.pinned (.plain (OpenSpec.ofChange handsStatesSpec)) handsStatesCard

/-- THE TIED CARD OF 'apographlaw11.HandsSteps'. -/
def handsStepsCard : Claim7 := { stood := { row := handsStepsRow, standIns := [], harness := (true, "8507268dda9e9b789745570443d50e27e26a7be606c00085d39492abc3511102"), looks := false }, kinds := [], alts := [], laidByText := true, laidKinds := [.data, .data, .data, .widerDeep], laidTests := true, laidLooks := .later }
def HandsStepsCardSaid : Prop := Claim7.holds Tryd.pinned (.plain (OpenSpec.ofChange handsStepsSpec)) handsStepsCard

/-- THE TIED CARD OF 'apographlaw11.HandsBreaks'. -/
def handsBreaksCard : Claim7 := { stood := { row := handsBreaksRow, standIns := [], harness := (true, "8507268dda9e9b789745570443d50e27e26a7be606c00085d39492abc3511102"), looks := false }, kinds := [], alts := [], laidByText := true, laidKinds := [.data, .data, .data, .widerDeep], laidTests := true, laidLooks := .later }
def HandsBreaksCardSaid : Prop := Claim7.holds Tryd.pinned (.plain (OpenSpec.ofChange handsBreaksSpec)) handsBreaksCard

/-- THE TIED CARD OF 'apographlaw11.HandsClean'. -/
def handsCleanCard : Claim7 := { stood := { row := handsCleanRow, standIns := [], harness := (true, "8507268dda9e9b789745570443d50e27e26a7be606c00085d39492abc3511102"), looks := false }, kinds := [], alts := [], laidByText := true, laidKinds := [.data, .data, .data, .widerDeep], laidTests := true, laidLooks := .later }
def HandsCleanCardSaid : Prop := Claim7.holds Tryd.pinned (.plain (OpenSpec.ofChange handsCleanSpec)) handsCleanCard

/-- THE TIED CARD OF 'apographlaw11.HandsOutside'. -/
def handsOutsideCard : Claim7 := { stood := { row := handsOutsideRow, standIns := [], harness := (true, "8507268dda9e9b789745570443d50e27e26a7be606c00085d39492abc3511102"), looks := false }, kinds := [], alts := [], laidByText := true, laidKinds := [.data, .data, .data, .widerDeep], laidTests := true, laidLooks := .later }
def HandsOutsideCardSaid : Prop := Claim7.holds Tryd.pinned (.plain (OpenSpec.ofChange handsOutsideSpec)) handsOutsideCard

/-- THE TIED CARD OF 'apographlaw11.HandsTouched'. -/
def handsTouchedCard : Claim7 := { stood := { row := handsTouchedRow, standIns := [], harness := (true, "8507268dda9e9b789745570443d50e27e26a7be606c00085d39492abc3511102"), looks := false }, kinds := [], alts := [], laidByText := true, laidKinds := [.data, .data, .data, .widerDeep], laidTests := true, laidLooks := .later }
def HandsTouchedCardSaid : Prop := Claim7.holds Tryd.pinned (.plain (OpenSpec.ofChange handsTouchedSpec)) handsTouchedCard

/-- THE TIED CARD OF 'apographlaw11.HandsLast'. -/
def handsLastCard : Claim7 := { stood := { row := handsLastRow, standIns := [], harness := (true, "8507268dda9e9b789745570443d50e27e26a7be606c00085d39492abc3511102"), looks := false }, kinds := [], alts := [], laidByText := true, laidKinds := [.data, .data, .data, .widerDeep], laidTests := true, laidLooks := .later }
def HandsLastCardSaid : Prop := Claim7.holds Tryd.pinned (.plain (OpenSpec.ofChange handsLastSpec)) handsLastCard

/-- THE TIED CARD OF 'apographlaw11.HandsChanges'. -/
def handsChangesCard : Claim7 := { stood := { row := handsChangesRow, standIns := [], harness := (true, "8507268dda9e9b789745570443d50e27e26a7be606c00085d39492abc3511102"), looks := false }, kinds := [], alts := [], laidByText := true, laidKinds := [.data, .data, .data, .widerDeep], laidTests := true, laidLooks := .later }
def HandsChangesCardSaid : Prop := Claim7.holds Tryd.pinned (.plain (OpenSpec.ofChange handsChangesSpec)) handsChangesCard

/-- THE SECOND FORM's CARD OF 'apographlaw11.HandsStates'. -/
def handsStatesUptoCard : Claim7 := { stood := { row := handsStatesUptoRow, standIns := [], harness := (true, "8507268dda9e9b789745570443d50e27e26a7be606c00085d39492abc3511102"), looks := false }, kinds := [], alts := [], laidByText := true, laidKinds := [.data, .data, .data, .widerDeep], laidTests := true, laidLooks := .later }
def HandsStatesUptoCardSaid : Prop := Claim7.holds Tryd.pinned (.plain (OpenSpec.upto handsStatesSpec)) handsStatesUptoCard

/-- THE SECOND FORM's CARD OF 'apographlaw11.HandsSteps'. -/
def handsStepsUptoCard : Claim7 := { stood := { row := handsStepsUptoRow, standIns := [], harness := (true, "8507268dda9e9b789745570443d50e27e26a7be606c00085d39492abc3511102"), looks := false }, kinds := [], alts := [], laidByText := true, laidKinds := [.data, .data, .data, .widerDeep], laidTests := true, laidLooks := .later }
def HandsStepsUptoCardSaid : Prop := Claim7.holds Tryd.pinned (.plain (OpenSpec.upto handsStepsSpec)) handsStepsUptoCard

/-- THE SECOND FORM's CARD OF 'apographlaw11.HandsBreaks'. -/
def handsBreaksUptoCard : Claim7 := { stood := { row := handsBreaksUptoRow, standIns := [], harness := (true, "8507268dda9e9b789745570443d50e27e26a7be606c00085d39492abc3511102"), looks := false }, kinds := [], alts := [], laidByText := true, laidKinds := [.data, .data, .data, .widerDeep], laidTests := true, laidLooks := .later }
def HandsBreaksUptoCardSaid : Prop := Claim7.holds Tryd.pinned (.plain (OpenSpec.upto handsBreaksSpec)) handsBreaksUptoCard

/-- THE SECOND FORM's CARD OF 'apographlaw11.HandsClean'. -/
def handsCleanUptoCard : Claim7 := { stood := { row := handsCleanUptoRow, standIns := [], harness := (true, "8507268dda9e9b789745570443d50e27e26a7be606c00085d39492abc3511102"), looks := false }, kinds := [], alts := [], laidByText := true, laidKinds := [.data, .data, .data, .widerDeep], laidTests := true, laidLooks := .later }
def HandsCleanUptoCardSaid : Prop := Claim7.holds Tryd.pinned (.plain (OpenSpec.upto handsCleanSpec)) handsCleanUptoCard

/-- THE SECOND FORM's CARD OF 'apographlaw11.HandsOutside'. -/
def handsOutsideUptoCard : Claim7 := { stood := { row := handsOutsideUptoRow, standIns := [], harness := (true, "8507268dda9e9b789745570443d50e27e26a7be606c00085d39492abc3511102"), looks := false }, kinds := [], alts := [], laidByText := true, laidKinds := [.data, .data, .data, .widerDeep], laidTests := true, laidLooks := .later }
def HandsOutsideUptoCardSaid : Prop := Claim7.holds Tryd.pinned (.plain (OpenSpec.upto handsOutsideSpec)) handsOutsideUptoCard

/-- THE SECOND FORM's CARD OF 'apographlaw11.HandsTouched'. -/
def handsTouchedUptoCard : Claim7 := { stood := { row := handsTouchedUptoRow, standIns := [], harness := (true, "8507268dda9e9b789745570443d50e27e26a7be606c00085d39492abc3511102"), looks := false }, kinds := [], alts := [], laidByText := true, laidKinds := [.data, .data, .data, .widerDeep], laidTests := true, laidLooks := .later }
def HandsTouchedUptoCardSaid : Prop := Claim7.holds Tryd.pinned (.plain (OpenSpec.upto handsTouchedSpec)) handsTouchedUptoCard

/-- THE SECOND FORM's CARD OF 'apographlaw11.HandsLast'. -/
def handsLastUptoCard : Claim7 := { stood := { row := handsLastUptoRow, standIns := [], harness := (true, "8507268dda9e9b789745570443d50e27e26a7be606c00085d39492abc3511102"), looks := false }, kinds := [], alts := [], laidByText := true, laidKinds := [.data, .data, .data, .widerDeep], laidTests := true, laidLooks := .later }
def HandsLastUptoCardSaid : Prop := Claim7.holds Tryd.pinned (.plain (OpenSpec.upto handsLastSpec)) handsLastUptoCard

/-- THE SECOND FORM's CARD OF 'apographlaw11.HandsChanges'. -/
def handsChangesUptoCard : Claim7 := { stood := { row := handsChangesUptoRow, standIns := [], harness := (true, "8507268dda9e9b789745570443d50e27e26a7be606c00085d39492abc3511102"), looks := false }, kinds := [], alts := [], laidByText := true, laidKinds := [.data, .data, .data, .widerDeep], laidTests := true, laidLooks := .later }
def HandsChangesUptoCardSaid : Prop := Claim7.holds Tryd.pinned (.plain (OpenSpec.upto handsChangesSpec)) handsChangesUptoCard
end Rows
end Go.Proofs.YtlnpbjhhfffnmaaDoor
