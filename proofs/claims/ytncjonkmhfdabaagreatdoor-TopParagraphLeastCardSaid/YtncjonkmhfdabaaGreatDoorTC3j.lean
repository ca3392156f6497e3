/- The card of one law, out of the contracts of the functions that it reaches. -/
import Derived.Test.YtncjonkmhfdabaaGreatDoorLawE
import Derived.Test.YtncjonkmhfdabaaGreatDoorCards
import Derived.Test.YtncjonkmhfdabaaGreatDoorTie
import Derived.Deep.DeepHandedRow
import Derived.JoinedCond
import Derived.WalkKit
import Derived.ProofKit
/- Proved: the closed facts of the row of TopParagraphLeast. No condition stands ahead of it. -/
namespace Go.Proofs.YtncjonkmhfdabaaGreatDoor
open Go Go.RowKit Go.ChangeShapes Go.WideShapes Go.ChangeAt
namespace TopParagraphLeast
theorem closed : joinedFacts Tryz.pinned.checked.prog 3 Tryz.f3 (OpenSpec.ofChange Rows.topParagraphLeastSpec).bare Rows.topParagraphLeastRow = true := by kernel_rfl
end TopParagraphLeast
end Go.Proofs.YtncjonkmhfdabaaGreatDoor
