/- Proved: whatever the input, TopTraced returns true, and the input reads as it did. No condition stands ahead of it. -/
import Derived.Test.YtncjonkmhfdabaaGreatDoorLawI
import Derived.Test.YtncjonkmhfdabaaGreatDoorCards
import Derived.Test.YtncjonkmhfdabaaGreatDoorTie
import Derived.Deep.DeepHandedRow
import Derived.JoinedCond
import Derived.WalkKit
import Derived.ProofKit
set_option linter.all false
namespace Go.Proofs.YtncjonkmhfdabaaGreatDoor
open Go Go.RowKit Go.ChangeShapes Go.WideShapes Go.ChangeAt
namespace TopTraced
theorem closed:joinedFacts Tryz.pinned.checked.prog 4 Tryz.f4 (OpenSpec.ofChange Rows.topTracedSpec).bare Rows.topTracedRow=true:=by kernel_rfl
end TopTraced
end Go.Proofs.YtncjonkmhfdabaaGreatDoor
