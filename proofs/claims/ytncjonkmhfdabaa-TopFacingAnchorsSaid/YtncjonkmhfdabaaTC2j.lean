/- The card of one law, out of the contracts of the functions that it reaches. -/
import Derived.Test.YtncjonkmhfdabaaLawD
import Derived.Test.YtncjonkmhfdabaaRows
import Derived.Deep.DeepHandedRow
import Derived.JoinedCond
import Derived.WalkKit
import Derived.ProofKit
/- Proved: the closed facts of the row of TopFacingAnchors. No condition stands ahead of it. -/
namespace Go.Proofs.Ytncjonkmhfdabaa
open Go Go.RowKit Go.ChangeShapes Go.WideShapes Go.ChangeAt
namespace TopFacingAnchors
theorem closed : joinedFacts Try.pinned.checked.prog 4 Try.f4 (OpenSpec.ofChange Rows.topFacingAnchorsSpec).bare Rows.topFacingAnchorsRow = true := by kernel_rfl
end TopFacingAnchors
end Go.Proofs.Ytncjonkmhfdabaa
