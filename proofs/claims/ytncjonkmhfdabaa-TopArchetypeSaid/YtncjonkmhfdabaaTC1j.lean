/- The card of one law, out of the contracts of the functions that it reaches. -/
import Derived.Test.YtncjonkmhfdabaaLawC
import Derived.Test.YtncjonkmhfdabaaRows
import Derived.Deep.DeepHandedRow
import Derived.JoinedCond
import Derived.WalkKit
import Derived.ProofKit
/- Proved: the closed facts of the row of TopArchetype. No condition stands ahead of it. -/
namespace Go.Proofs.Ytncjonkmhfdabaa
open Go Go.RowKit Go.ChangeShapes Go.WideShapes Go.ChangeAt
namespace TopArchetype
theorem closed : joinedFacts Try.pinned.checked.prog 3 Try.f3 (OpenSpec.ofChange Rows.topArchetypeSpec).bare Rows.topArchetypeRow = true := by kernel_rfl
end TopArchetype
end Go.Proofs.Ytncjonkmhfdabaa
