/- The card of one law, out of the contracts of the functions that it reaches. -/
import Derived.Test.YtncjonkmhfdabaaGreatLawF
import Derived.Test.YtncjonkmhfdabaaGreatRows
import Derived.Deep.DeepHandedRow
import Derived.JoinedCond
import Derived.WalkKit
import Derived.ProofKit
/- Proved: the closed facts of the row of TopFourStates. No condition stands ahead of it. -/
namespace Go.Proofs.YtncjonkmhfdabaaGreat
open Go Go.RowKit Go.ChangeShapes Go.WideShapes Go.ChangeAt
namespace TopFourStates
theorem closed : joinedFacts Tryz.pinned.checked.prog 3 Tryz.f3 (OpenSpec.ofChange Rows.topFourStatesSpec).bare Rows.topFourStatesRow = true := by kernel_rfl
end TopFourStates
end Go.Proofs.YtncjonkmhfdabaaGreat
