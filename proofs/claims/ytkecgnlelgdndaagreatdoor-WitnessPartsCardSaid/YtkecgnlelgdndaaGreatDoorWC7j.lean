/- Proved: whatever the input, WitnessParts returns true, and the input reads as it did. No condition stands ahead of it. -/
import Derived.Test.YtkecgnlelgdndaaGreatDoorLawJ
import Derived.Test.YtkecgnlelgdndaaGreatDoorCards
import Derived.Test.YtkecgnlelgdndaaGreatDoorTie
import Derived.Deep.DeepHandedRow
import Derived.JoinedCond
import Derived.WalkKit
import Derived.ProofKit
set_option linter.all false
namespace Go.Proofs.YtkecgnlelgdndaaGreatDoor
open Go Go.RowKit Go.ChangeShapes Go.WideShapes Go.ChangeAt
namespace WitnessParts
theorem closed:joinedFacts Tryz.pinned.checked.prog 7 Tryz.f7 (OpenSpec.ofChange Rows.witnessPartsSpec).bare Rows.witnessPartsRow=true:=by kernel_rfl
end WitnessParts
end Go.Proofs.YtkecgnlelgdndaaGreatDoor
