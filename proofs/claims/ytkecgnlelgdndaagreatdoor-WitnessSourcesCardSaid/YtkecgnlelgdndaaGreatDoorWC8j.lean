/- Proved: whatever the input, WitnessSources returns true, and the input reads as it did. No condition stands ahead of it. -/
import Derived.Test.YtkecgnlelgdndaaGreatDoorLawL
import Derived.Test.YtkecgnlelgdndaaGreatDoorCards
import Derived.Test.YtkecgnlelgdndaaGreatDoorTie
import Derived.Deep.DeepHandedRow
import Derived.JoinedCond
import Derived.WalkKit
import Derived.ProofKit
set_option linter.all false
namespace Go.Proofs.YtkecgnlelgdndaaGreatDoor
open Go Go.RowKit Go.ChangeShapes Go.WideShapes Go.ChangeAt
namespace WitnessSources
theorem closed:joinedFacts Tryz.pinned.checked.prog 3 Tryz.f3 (OpenSpec.ofChange Rows.witnessSourcesSpec).bare Rows.witnessSourcesRow=true:=by kernel_rfl
end WitnessSources
end Go.Proofs.YtkecgnlelgdndaaGreatDoor