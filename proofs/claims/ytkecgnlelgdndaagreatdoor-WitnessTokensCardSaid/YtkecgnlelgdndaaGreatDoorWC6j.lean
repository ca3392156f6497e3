/- Proved: whatever the input, WitnessTokens returns true, and the input reads as it did. No condition stands ahead of it. -/
import Derived.Test.YtkecgnlelgdndaaGreatDoorLawK
import Derived.Test.YtkecgnlelgdndaaGreatDoorCards
import Derived.Test.YtkecgnlelgdndaaGreatDoorTie
import Derived.Deep.DeepHandedRow
import Derived.JoinedCond
import Derived.WalkKit
import Derived.ProofKit
set_option linter.all false
namespace Go.Proofs.YtkecgnlelgdndaaGreatDoor
open Go Go.RowKit Go.ChangeShapes Go.WideShapes Go.ChangeAt
namespace WitnessTokens
theorem closed:joinedFacts Tryz.pinned.checked.prog 6 Tryz.f6 (OpenSpec.ofChange Rows.witnessTokensSpec).bare Rows.witnessTokensRow=true:=by kernel_rfl
end WitnessTokens
end Go.Proofs.YtkecgnlelgdndaaGreatDoor
