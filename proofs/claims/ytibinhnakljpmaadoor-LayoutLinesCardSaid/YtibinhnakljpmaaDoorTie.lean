/-
  DERIVED. GIVEN WITH THE SEED: THE PROGRAM's TIES (one call each: nine closed facts by the kernel) AND EACH ROW's TIE, after the 31st guide's Derived/Test/Toyas{Tie, Card}.lean. No idea stands in it: it is a product of the set-up. Laid BY PROGRAM, IN A SANDBOX (cutbox-door.mjs). By AI agents, Wed Nov 11 2026. No macro, syntax, notation, axiom, sorry.
-/
import Derived.Test.YtibinhnakljpmaaDoorRows
import Derived.LaidByTextLater
import Derived.SevenTiedAt
import Derived.LaidSub
import Derived.LaidOnce
namespace Go.Proofs.YtibinhnakljpmaaDoor
open Go
set_option maxRecDepth 100000
theorem seatTie1 : Tryd.prog.laidByTextLater [("math/bits.deBruijn32tab", Rows.laid_math_bits_deBruijn32tab), ("math/bits.deBruijn64tab", Rows.laid_math_bits_deBruijn64tab), ("internal/strconv.uint64pow10", Rows.laid_internal_strconv_uint64pow10), ("apograph/transcript.forms", Rows.laid_apograph_transcript_forms)] [.data, .data, .data, .widerDeep] true :=
  Program.laidByTextLater_by_one 40 8 65 (by kernel_rfl) (by kernel_rfl) (by kernel_rfl) (by kernel_rfl) (by kernel_rfl) (by kernel_rfl) (fun _ _ => by kernel_rfl)
theorem noOwnUnsafe : Tryd.pinned.checked.prog.headLifts.contains "ownunsafe" = false := by kernel_rfl
theorem tie : Tryd.prog.laidByTextLater [("math/bits.deBruijn32tab", Rows.laid_math_bits_deBruijn32tab), ("math/bits.deBruijn64tab", Rows.laid_math_bits_deBruijn64tab), ("internal/strconv.uint64pow10", Rows.laid_internal_strconv_uint64pow10), ("apograph/transcript.forms", Rows.laid_apograph_transcript_forms)] [.data, .data, .data, .widerDeep] true :=
  Program.laidByTextLater.sub seatTie1 ["math/bits.deBruijn32tab", "math/bits.deBruijn64tab", "internal/strconv.uint64pow10", "apograph/transcript.forms"] (by kernel_rfl) (by kernel_rfl)
theorem layoutPositions_row_tie : Rows.layoutPositionsRow.laidByTextAt .later Tryd.pinned [.data, .data, .data, .widerDeep] true :=
  OpenClaim.laidByTextAt_later rfl rfl tie noOwnUnsafe
theorem layoutCounts_row_tie : Rows.layoutCountsRow.laidByTextAt .later Tryd.pinned [.data, .data, .data, .widerDeep] true :=
  OpenClaim.laidByTextAt_later rfl rfl tie noOwnUnsafe
theorem layoutBroken_row_tie : Rows.layoutBrokenRow.laidByTextAt .later Tryd.pinned [.data, .data, .data, .widerDeep] true :=
  OpenClaim.laidByTextAt_later rfl rfl tie noOwnUnsafe
theorem layoutStarts_row_tie : Rows.layoutStartsRow.laidByTextAt .later Tryd.pinned [.data, .data, .data, .widerDeep] true :=
  OpenClaim.laidByTextAt_later rfl rfl tie noOwnUnsafe
theorem layoutFind_row_tie : Rows.layoutFindRow.laidByTextAt .later Tryd.pinned [.data, .data, .data, .widerDeep] true :=
  OpenClaim.laidByTextAt_later rfl rfl tie noOwnUnsafe
theorem layoutOrder_row_tie : Rows.layoutOrderRow.laidByTextAt .later Tryd.pinned [.data, .data, .data, .widerDeep] true :=
  OpenClaim.laidByTextAt_later rfl rfl tie noOwnUnsafe
theorem layoutLines_row_tie : Rows.layoutLinesRow.laidByTextAt .later Tryd.pinned [.data, .data, .data, .widerDeep] true :=
  OpenClaim.laidByTextAt_later rfl rfl tie noOwnUnsafe
theorem layoutPositionsUpto_row_tie : Rows.layoutPositionsUptoRow.laidByTextAt .later Tryd.pinned [.data, .data, .data, .widerDeep] true :=
  OpenClaim.laidByTextAt_later rfl rfl tie noOwnUnsafe
theorem layoutCountsUpto_row_tie : Rows.layoutCountsUptoRow.laidByTextAt .later Tryd.pinned [.data, .data, .data, .widerDeep] true :=
  OpenClaim.laidByTextAt_later rfl rfl tie noOwnUnsafe
theorem layoutBrokenUpto_row_tie : Rows.layoutBrokenUptoRow.laidByTextAt .later Tryd.pinned [.data, .data, .data, .widerDeep] true :=
  OpenClaim.laidByTextAt_later rfl rfl tie noOwnUnsafe
theorem layoutStartsUpto_row_tie : Rows.layoutStartsUptoRow.laidByTextAt .later Tryd.pinned [.data, .data, .data, .widerDeep] true :=
  OpenClaim.laidByTextAt_later rfl rfl tie noOwnUnsafe
theorem layoutFindUpto_row_tie : Rows.layoutFindUptoRow.laidByTextAt .later Tryd.pinned [.data, .data, .data, .widerDeep] true :=
  OpenClaim.laidByTextAt_later rfl rfl tie noOwnUnsafe
theorem layoutOrderUpto_row_tie : Rows.layoutOrderUptoRow.laidByTextAt .later Tryd.pinned [.data, .data, .data, .widerDeep] true :=
  OpenClaim.laidByTextAt_later rfl rfl tie noOwnUnsafe
theorem layoutLinesUpto_row_tie : Rows.layoutLinesUptoRow.laidByTextAt .later Tryd.pinned [.data, .data, .data, .widerDeep] true :=
  OpenClaim.laidByTextAt_later rfl rfl tie noOwnUnsafe
end Go.Proofs.YtibinhnakljpmaaDoor
