/- Proved: whatever the input, WitnessPositions returns true, and the input reads as it did. No condition stands ahead of it. -/
import Derived.Test.YtkecgnlelgdndaaGreatDoorLawK
import Derived.Test.YtkecgnlelgdndaaGreatDoorCards
import Derived.Test.YtkecgnlelgdndaaGreatDoorTie
import Derived.Deep.DeepHandedRow
import Derived.JoinedCond
import Derived.WalkKit
import Derived.ProofKit
set_option linter.all false
namespace Go.Proofs.YtkecgnlelgdndaaGreatDoor
open Go Go.RowKit Go.ChangeShapes Go.WideShapes Go.ChangeAt
namespace WitnessPositions
theorem closed:joinedFacts Tryz.pinned.checked.prog 10 Tryz.f10 (OpenSpec.ofChange Rows.witnessPositionsSpec).bare Rows.witnessPositionsRow=true:=by kernel_rfl
end WitnessPositions
end Go.Proofs.YtkecgnlelgdndaaGreatDoor
