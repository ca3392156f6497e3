/-
  DERIVED. GIVEN WITH THE SEED: THE CARDS: each row of YtieeggfkfgmdgaaDoorRows.lean that lists a variable, with what it lists TIED to the program's text (the seventh form; the later family's looks); each row that meets fmt, with fmt's text TOLD by the authors' own Lean function (tested against real Go, not proved from fmt's source: count such statements apart). THE CARD IS WHAT COUNTS. Prove the row's statement (the work); the ties are given (YtieeggfkfgmdgaaDoorTie.lean); close each card by the builder's one call (the guide's Derived/Test/ToyasCard.lean, 'card_holds'). Laid BY PROGRAM, IN A SANDBOX (cutbox-door.mjs). By AI agents, Wed Nov 11 2026. No macro, syntax, notation, axiom, sorry.
-/
import Derived.Test.YtieeggfkfgmdgaaDoorRows
import GoSem.ClaimSeven
namespace Go.Proofs.YtieeggfkfgmdgaaDoor
namespace Rows

/-- THE TIED CARD OF 'apographlaw15.TokenizerPlaces'. -/
def tokenizerPlacesCard : Claim7 := { stood := { row := tokenizerPlacesRow, standIns := [], harness := (true, "f0d2dc21d7a3918d48b5c77daa8a3f2a6ea68b75bc55c4e1643f9d0d35576ebf"), looks := false }, kinds := [], alts := [], laidByText := true, laidKinds := [.data, .data, .data, .widerDeep], laidTests := true, laidLooks := .later }
def TokenizerPlacesCardSaid : Prop := Claim7.holds Tryd.pinned (.plain (OpenSpec.ofChange tokenizerPlacesSpec)) tokenizerPlacesCard

/-- THE SECOND FORM's CARD OF 'apographlaw15.TokenizerPlaces'. -/
def tokenizerPlacesUptoCard : Claim7 := { stood := { row := tokenizerPlacesUptoRow, standIns := [], harness := (true, "f0d2dc21d7a3918d48b5c77daa8a3f2a6ea68b75bc55c4e1643f9d0d35576ebf"), looks := false }, kinds := [], alts := [], laidByText := true, laidKinds := [.data, .data, .data, .widerDeep], laidTests := true, laidLooks := .later }
def TokenizerPlacesUptoCardSaid : Prop := Claim7.holds Tryd.pinned (.plain (OpenSpec.upto tokenizerPlacesSpec)) tokenizerPlacesUptoCard
end Rows
end Go.Proofs.YtieeggfkfgmdgaaDoor
