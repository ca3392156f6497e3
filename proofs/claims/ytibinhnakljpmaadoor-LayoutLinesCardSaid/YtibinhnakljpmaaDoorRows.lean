/-
  NARROWER THAN 'FOR EVERY INPUT', by the rows' own cells (each row's printed sentence says how): LayoutPositions: loops, laid · LayoutCounts: loops, laid · LayoutBroken: loops, laid · LayoutStarts: loops, laid · LayoutFind: loops, laid · LayoutOrder: loops, laid · LayoutLines: loops, laid.
  DERIVED. THE GIVEN ROWS OF THIS SEAT. 7 by the template 'for every input the law returns true; each argument reads behind the call as it read before'; 0 by the template 'total and deterministic' (their statements: YtibinhnakljpmaaDoorTotals.lean).
  GIVEN WITH THE SEED: the statements are not yours to turn. If you find one false, say at which input.
  Laid BY PROGRAM, IN A SANDBOX (cutbox-rows.mjs): the forced cells as the released guide's own fill.sh prints them over the translation c6e6090188202ab5… (all of the seat's roots in one cut). By AI agents, Wed Nov 11 2026. No macro, syntax, notation, axiom, sorry.
-/
import Derived.Test.YtibinhnakljpmaaDoorChecked
import GoSem.Claim
import GoSem.ClaimJoined
import GoSem.ClaimMapViews
import Derived.JoinedTies
import Derived.KernelRfl
namespace Go.Proofs.YtibinhnakljpmaaDoor
/- THE CELL 'sum', in the pinned program and in every row, IS THE sha256 OF THE DUMP (.gsa) THAT YtibinhnakljpmaaDoorProg.lean LOADS. Nothing in Lean hashes anything: it is a label: what it is worth is what the hold of that sum in a sandbox is worth. -/
noncomputable def Tryd.pinned : Pinned := { name := "ytibinhnakljpmaadoor", sum := "c6e6090188202ab5ea622d4ac19f80632e99def5fb0499b1a58f0c99ae80ef45", checked := Tryd.checked }
namespace Rows
def none {H : Type} : Left H := { results := [], args := [] }

/- WHAT THE LISTED PACKAGE-LEVEL VARIABLES READ AS WHEN THE CALL BEGINS. Each datum BY PROGRAM (the guide's laid-datum.mjs) off the statement by which the dump's own 'gosem.cut.vars' lays the variable. In a bare row this is a premise. The card (YtibinhnakljpmaaDoorCards.lean) ties it to the program's text. -/
def laid_math_bits_deBruijn32tab {H : Type} : DataW H := .agg [.lit (.int .u8 0), .lit (.int .u8 1), .lit (.int .u8 28), .lit (.int .u8 2), .lit (.int .u8 29), .lit (.int .u8 14), .lit (.int .u8 24), .lit (.int .u8 3), .lit (.int .u8 30), .lit (.int .u8 22), .lit (.int .u8 20), .lit (.int .u8 15), .lit (.int .u8 25), .lit (.int .u8 17), .lit (.int .u8 4), .lit (.int .u8 8), .lit (.int .u8 31), .lit (.int .u8 27), .lit (.int .u8 13), .lit (.int .u8 23), .lit (.int .u8 21), .lit (.int .u8 19), .lit (.int .u8 16), .lit (.int .u8 7), .lit (.int .u8 26), .lit (.int .u8 12), .lit (.int .u8 18), .lit (.int .u8 6), .lit (.int .u8 11), .lit (.int .u8 5), .lit (.int .u8 10), .lit (.int .u8 9)]
def laid_math_bits_deBruijn64tab {H : Type} : DataW H := .agg [.lit (.int .u8 0), .lit (.int .u8 1), .lit (.int .u8 56), .lit (.int .u8 2), .lit (.int .u8 57), .lit (.int .u8 49), .lit (.int .u8 28), .lit (.int .u8 3), .lit (.int .u8 61), .lit (.int .u8 58), .lit (.int .u8 42), .lit (.int .u8 50), .lit (.int .u8 38), .lit (.int .u8 29), .lit (.int .u8 17), .lit (.int .u8 4), .lit (.int .u8 62), .lit (.int .u8 47), .lit (.int .u8 59), .lit (.int .u8 36), .lit (.int .u8 45), .lit (.int .u8 43), .lit (.int .u8 51), .lit (.int .u8 22), .lit (.int .u8 53), .lit (.int .u8 39), .lit (.int .u8 33), .lit (.int .u8 30), .lit (.int .u8 24), .lit (.int .u8 18), .lit (.int .u8 12), .lit (.int .u8 5), .lit (.int .u8 63), .lit (.int .u8 55), .lit (.int .u8 48), .lit (.int .u8 27), .lit (.int .u8 60), .lit (.int .u8 41), .lit (.int .u8 37), .lit (.int .u8 16), .lit (.int .u8 46), .lit (.int .u8 35), .lit (.int .u8 44), .lit (.int .u8 21), .lit (.int .u8 52), .lit (.int .u8 32), .lit (.int .u8 23), .lit (.int .u8 11), .lit (.int .u8 54), .lit (.int .u8 26), .lit (.int .u8 40), .lit (.int .u8 15), .lit (.int .u8 34), .lit (.int .u8 20), .lit (.int .u8 31), .lit (.int .u8 10), .lit (.int .u8 25), .lit (.int .u8 14), .lit (.int .u8 19), .lit (.int .u8 9), .lit (.int .u8 13), .lit (.int .u8 8), .lit (.int .u8 7), .lit (.int .u8 6)]
def laid_internal_strconv_uint64pow10 {H : Type} : DataW H := .agg [.lit (.int .u64 1), .lit (.int .u64 10), .lit (.int .u64 100), .lit (.int .u64 1000), .lit (.int .u64 10000), .lit (.int .u64 100000), .lit (.int .u64 1000000), .lit (.int .u64 10000000), .lit (.int .u64 100000000), .lit (.int .u64 1000000000), .lit (.int .u64 10000000000), .lit (.int .u64 100000000000), .lit (.int .u64 1000000000000), .lit (.int .u64 10000000000000), .lit (.int .u64 100000000000000), .lit (.int .u64 1000000000000000), .lit (.int .u64 10000000000000000), .lit (.int .u64 100000000000000000), .lit (.int .u64 1000000000000000000), .lit (.int .u64 10000000000000000000)]
def laid_apograph_transcript_forms {H : Type} : DataW H := .agg [.agg [.lit (.string []), .lit (.bool false), .lit (.bool false), .lit (.bool false)], .agg [.lit (.string []), .lit (.bool true), .lit (.bool false), .lit (.bool false)], .agg [.lit (.string [108, 98]), .lit (.bool false), .lit (.bool false), .lit (.bool false)], .agg [.lit (.string [112, 98]), .lit (.bool true), .lit (.bool false), .lit (.bool false)], .agg [.lit (.string [115, 101, 99]), .lit (.bool true), .lit (.bool false), .lit (.bool false)], .agg [.lit (.string [118]), .lit (.bool false), .lit (.bool false), .lit (.bool false)], .agg [.lit (.string [103, 97, 112]), .lit (.bool false), .lit (.bool true), .lit (.bool false)], .agg [.lit (.string [117, 110, 99, 108, 101, 97, 114]), .lit (.bool false), .lit (.bool false), .lit (.bool true)], .agg [.lit (.string [97, 100, 100]), .lit (.bool false), .lit (.bool true), .lit (.bool true)], .agg [.lit (.string [100, 101, 108]), .lit (.bool false), .lit (.bool true), .lit (.bool true)], .agg [.lit (.string [97, 98]), .lit (.bool true), .lit (.bool false), .lit (.bool true)], .agg [.lit (.string [110, 97, 109, 101]), .lit (.bool true), .lit (.bool false), .lit (.bool true)]]

/-- 'apographlaw13.LayoutPositions': WHATEVER THE INPUT: true; the input reads as it did. -/
def layoutPositionsSpec : ChangeSpec := { name := "layoutPositions", fn := fun _ => fun
  | [d1, d2] => { results := [.lit (.bool true)], args := [d1, d2] }
  | _ => none }
def layoutPositionsRow : OpenClaim := { program := "ytibinhnakljpmaadoor", sum := "c6e6090188202ab5ea622d4ac19f80632e99def5fb0499b1a58f0c99ae80ef45", func := "apograph/apographlaw13.LayoutPositions", spec := "layoutPositions", inPlace := ["internal/bytealg.IndexByteString", "internal/abi.NoEscape", "internal/bytealg.MakeNoZero"], unfollowed := true, recurses := true, named := ["apograph/transcript.forms", "internal/strconv.uint64pow10", "math/bits.deBruijn32tab", "math/bits.deBruijn64tab"], loops := true, apart := false, laid := [("math/bits.deBruijn32tab", laid_math_bits_deBruijn32tab), ("math/bits.deBruijn64tab", laid_math_bits_deBruijn64tab), ("internal/strconv.uint64pow10", laid_internal_strconv_uint64pow10), ("apograph/transcript.forms", laid_apograph_transcript_forms)] }
def LayoutPositionsSaid : Prop := layoutPositionsRow.holds Tryd.pinned (OpenSpec.ofChange layoutPositionsSpec)

/-- ITS FALSE NEIGHBOUR: 'it returns false'. Refute it at one input. -/
def layoutPositionsWrong : ChangeSpec := { name := "layoutPositions", fn := fun _ => fun
  | [d1, d2] => { results := [.lit (.bool false)], args := [d1, d2] }
  | _ => none }
def LayoutPositionsWrongFalsely : Prop := layoutPositionsRow.holds Tryd.pinned (OpenSpec.ofChange layoutPositionsWrong)

/-- 'apographlaw13.LayoutCounts': WHATEVER THE INPUT: true; the input reads as it did. -/
def layoutCountsSpec : ChangeSpec := { name := "layoutCounts", fn := fun _ => fun
  | [d1, d2, d3] => { results := [.lit (.bool true)], args := [d1, d2, d3] }
  | _ => none }
def layoutCountsRow : OpenClaim := { program := "ytibinhnakljpmaadoor", sum := "c6e6090188202ab5ea622d4ac19f80632e99def5fb0499b1a58f0c99ae80ef45", func := "apograph/apographlaw13.LayoutCounts", spec := "layoutCounts", inPlace := ["internal/bytealg.IndexByteString", "internal/abi.NoEscape", "internal/bytealg.MakeNoZero"], unfollowed := true, recurses := true, named := ["internal/strconv.uint64pow10", "math/bits.deBruijn32tab", "math/bits.deBruijn64tab", "apograph/transcript.forms"], loops := true, apart := false, laid := [("math/bits.deBruijn32tab", laid_math_bits_deBruijn32tab), ("math/bits.deBruijn64tab", laid_math_bits_deBruijn64tab), ("internal/strconv.uint64pow10", laid_internal_strconv_uint64pow10), ("apograph/transcript.forms", laid_apograph_transcript_forms)] }
def LayoutCountsSaid : Prop := layoutCountsRow.holds Tryd.pinned (OpenSpec.ofChange layoutCountsSpec)

/-- ITS FALSE NEIGHBOUR: 'it returns false'. Refute it at one input. -/
def layoutCountsWrong : ChangeSpec := { name := "layoutCounts", fn := fun _ => fun
  | [d1, d2, d3] => { results := [.lit (.bool false)], args := [d1, d2, d3] }
  | _ => none }
def LayoutCountsWrongFalsely : Prop := layoutCountsRow.holds Tryd.pinned (OpenSpec.ofChange layoutCountsWrong)

/-- 'apographlaw13.LayoutBroken': WHATEVER THE INPUT: true; the input reads as it did. -/
def layoutBrokenSpec : ChangeSpec := { name := "layoutBroken", fn := fun _ => fun
  | [d] => { results := [.lit (.bool true)], args := [d] }
  | _ => none }
def layoutBrokenRow : OpenClaim := { program := "ytibinhnakljpmaadoor", sum := "c6e6090188202ab5ea622d4ac19f80632e99def5fb0499b1a58f0c99ae80ef45", func := "apograph/apographlaw13.LayoutBroken", spec := "layoutBroken", inPlace := ["internal/bytealg.IndexByteString", "internal/abi.NoEscape", "internal/bytealg.MakeNoZero"], unfollowed := true, recurses := true, named := ["internal/strconv.uint64pow10", "math/bits.deBruijn32tab", "math/bits.deBruijn64tab", "apograph/transcript.forms"], loops := true, apart := false, laid := [("math/bits.deBruijn32tab", laid_math_bits_deBruijn32tab), ("math/bits.deBruijn64tab", laid_math_bits_deBruijn64tab), ("internal/strconv.uint64pow10", laid_internal_strconv_uint64pow10), ("apograph/transcript.forms", laid_apograph_transcript_forms)] }
def LayoutBrokenSaid : Prop := layoutBrokenRow.holds Tryd.pinned (OpenSpec.ofChange layoutBrokenSpec)

/-- ITS FALSE NEIGHBOUR: 'it returns false'. Refute it at one input. -/
def layoutBrokenWrong : ChangeSpec := { name := "layoutBroken", fn := fun _ => fun
  | [d] => { results := [.lit (.bool false)], args := [d] }
  | _ => none }
def LayoutBrokenWrongFalsely : Prop := layoutBrokenRow.holds Tryd.pinned (OpenSpec.ofChange layoutBrokenWrong)

/-- 'apographlaw13.LayoutStarts': WHATEVER THE INPUT: true; the input reads as it did. -/
def layoutStartsSpec : ChangeSpec := { name := "layoutStarts", fn := fun _ => fun
  | [d1, d2, d3, d4] => { results := [.lit (.bool true)], args := [d1, d2, d3, d4] }
  | _ => none }
def layoutStartsRow : OpenClaim := { program := "ytibinhnakljpmaadoor", sum := "c6e6090188202ab5ea622d4ac19f80632e99def5fb0499b1a58f0c99ae80ef45", func := "apograph/apographlaw13.LayoutStarts", spec := "layoutStarts", inPlace := ["internal/bytealg.IndexByteString", "internal/abi.NoEscape", "internal/bytealg.MakeNoZero"], unfollowed := true, recurses := true, named := ["internal/strconv.uint64pow10", "math/bits.deBruijn32tab", "math/bits.deBruijn64tab", "apograph/transcript.forms"], loops := true, apart := false, laid := [("math/bits.deBruijn32tab", laid_math_bits_deBruijn32tab), ("math/bits.deBruijn64tab", laid_math_bits_deBruijn64tab), ("internal/strconv.uint64pow10", laid_internal_strconv_uint64pow10), ("apograph/transcript.forms", laid_apograph_transcript_forms)] }
def LayoutStartsSaid : Prop := layoutStartsRow.holds Tryd.pinned (OpenSpec.ofChange layoutStartsSpec)

/-- ITS FALSE NEIGHBOUR: 'it returns false'. Refute it at one input. -/
def layoutStartsWrong : ChangeSpec := { name := "layoutStarts", fn := fun _ => fun
  | [d1, d2, d3, d4] => { results := [.lit (.bool false)], args := [d1, d2, d3, d4] }
  | _ => none }
def LayoutStartsWrongFalsely : Prop := layoutStartsRow.holds Tryd.pinned (OpenSpec.ofChange layoutStartsWrong)

/-- 'apographlaw13.LayoutFind': WHATEVER THE INPUT: true; the input reads as it did. -/
def layoutFindSpec : ChangeSpec := { name := "layoutFind", fn := fun _ => fun
  | [d1, d2] => { results := [.lit (.bool true)], args := [d1, d2] }
  | _ => none }
def layoutFindRow : OpenClaim := { program := "ytibinhnakljpmaadoor", sum := "c6e6090188202ab5ea622d4ac19f80632e99def5fb0499b1a58f0c99ae80ef45", func := "apograph/apographlaw13.LayoutFind", spec := "layoutFind", inPlace := ["internal/bytealg.IndexByteString", "internal/abi.NoEscape", "internal/bytealg.MakeNoZero"], unfollowed := true, recurses := true, named := ["internal/strconv.uint64pow10", "math/bits.deBruijn32tab", "math/bits.deBruijn64tab", "apograph/transcript.forms"], loops := true, apart := false, laid := [("math/bits.deBruijn32tab", laid_math_bits_deBruijn32tab), ("math/bits.deBruijn64tab", laid_math_bits_deBruijn64tab), ("internal/strconv.uint64pow10", laid_internal_strconv_uint64pow10), ("apograph/transcript.forms", laid_apograph_transcript_forms)] }
def LayoutFindSaid : Prop := layoutFindRow.holds Tryd.pinned (OpenSpec.ofChange layoutFindSpec)

/-- ITS FALSE NEIGHBOUR: 'it returns false'. Refute it at one input. -/
def layoutFindWrong : ChangeSpec := { name := "layoutFind", fn := fun _ => fun
  | [d1, d2] => { results := [.lit (.bool false)], args := [d1, d2] }
  | _ => none }
def LayoutFindWrongFalsely : Prop := layoutFindRow.holds Tryd.pinned (OpenSpec.ofChange layoutFindWrong)

/-- 'apographlaw13.LayoutOrder': WHATEVER THE INPUT: true; the input reads as it did. -/
def layoutOrderSpec : ChangeSpec := { name := "layoutOrder", fn := fun _ => fun
  | [d1, d2, d3] => { results := [.lit (.bool true)], args := [d1, d2, d3] }
  | _ => none }
def layoutOrderRow : OpenClaim := { program := "ytibinhnakljpmaadoor", sum := "c6e6090188202ab5ea622d4ac19f80632e99def5fb0499b1a58f0c99ae80ef45", func := "apograph/apographlaw13.LayoutOrder", spec := "layoutOrder", inPlace := ["internal/bytealg.IndexByteString", "internal/abi.NoEscape", "internal/bytealg.MakeNoZero"], unfollowed := true, recurses := true, named := ["internal/strconv.uint64pow10", "math/bits.deBruijn32tab", "math/bits.deBruijn64tab", "apograph/transcript.forms"], loops := true, apart := false, laid := [("math/bits.deBruijn32tab", laid_math_bits_deBruijn32tab), ("math/bits.deBruijn64tab", laid_math_bits_deBruijn64tab), ("internal/strconv.uint64pow10", laid_internal_strconv_uint64pow10), ("apograph/transcript.forms", laid_apograph_transcript_forms)] }
def LayoutOrderSaid : Prop := layoutOrderRow.holds Tryd.pinned (OpenSpec.ofChange layoutOrderSpec)

/-- ITS FALSE NEIGHBOUR: 'it returns false'. Refute it at one input. -/
def layoutOrderWrong : ChangeSpec := { name := "layoutOrder", fn := fun _ => fun
  | [d1, d2, d3] => { results := [.lit (.bool false)], args := [d1, d2, d3] }
  | _ => none }
def LayoutOrderWrongFalsely : Prop := layoutOrderRow.holds Tryd.pinned (OpenSpec.ofChange layoutOrderWrong)

/-- 'apographlaw13.LayoutLines': WHATEVER THE INPUT: true; the input reads as it did. -/
def layoutLinesSpec : ChangeSpec := { name := "layoutLines", fn := fun _ => fun
  | [d] => { results := [.lit (.bool true)], args := [d] }
  | _ => none }
def layoutLinesRow : OpenClaim := { program := "ytibinhnakljpmaadoor", sum := "c6e6090188202ab5ea622d4ac19f80632e99def5fb0499b1a58f0c99ae80ef45", func := "apograph/apographlaw13.LayoutLines", spec := "layoutLines", inPlace := ["internal/bytealg.IndexByteString", "internal/abi.NoEscape", "internal/bytealg.MakeNoZero"], unfollowed := true, recurses := true, named := ["internal/strconv.uint64pow10", "math/bits.deBruijn32tab", "math/bits.deBruijn64tab", "apograph/transcript.forms"], loops := true, apart := false, laid := [("math/bits.deBruijn32tab", laid_math_bits_deBruijn32tab), ("math/bits.deBruijn64tab", laid_math_bits_deBruijn64tab), ("internal/strconv.uint64pow10", laid_internal_strconv_uint64pow10), ("apograph/transcript.forms", laid_apograph_transcript_forms)] }
def LayoutLinesSaid : Prop := layoutLinesRow.holds Tryd.pinned (OpenSpec.ofChange layoutLinesSpec)

/-- ITS FALSE NEIGHBOUR: 'it returns false'. Refute it at one input. -/
def layoutLinesWrong : ChangeSpec := { name := "layoutLines", fn := fun _ => fun
  | [d] => { results := [.lit (.bool false)], args := [d] }
  | _ => none }
def LayoutLinesWrongFalsely : Prop := layoutLinesRow.holds Tryd.pinned (OpenSpec.ofChange layoutLinesWrong)

/- THE SECOND FORM. 'bulk': how many values and letters a reading holds, each counted each time it is reached (what is shared counts as often as it is met; a slice's spare places count too). A statement '..UptoSaid' is the law's where the arguments, and the package variables that the reading takes, are together of bulk at most 1048576: NARROWER than '..Said'. Prove '..Said' where nothing that the law and all that it calls make is longer than what came in: it says more and counts as full. Else prove '..UptoSaid'. A law counts once. -/
mutual
def uptoBulk {H : Type} : DataW H → Nat
  | .lit (.string bytes) => bytes.length + 1
  | .lit _ => 1
  | .nil => 1
  | .ptr d => uptoBulk d + 1
  | .slice elems spare => uptoBulkAll elems + uptoBulkAll spare + 1
  | .agg parts => uptoBulkAll parts + 1
  | .iface _ d => uptoBulk d + 1
  | .map entries => uptoBulkEntries entries + 1
  | .held _ => 1
def uptoBulkAll {H : Type} : List (DataW H) → Nat
  | [] => 0
  | d :: r => uptoBulk d + uptoBulkAll r
def uptoBulkEntries {H : Type} : List (Lit × DataW H) → Nat
  | [] => 0
  | x :: r => uptoBulkEntry x + uptoBulkEntries r
def uptoBulkEntry {H : Type} : Lit × DataW H → Nat
  | (.string bytes, d) => bytes.length + uptoBulk d + 1
  | (_, d) => uptoBulk d + 1
 end
def uptoSmall : (H : Type) → List (DataW H) → Bool := fun _ ds => decide (uptoBulkAll ds ≤ 1048576)
def OpenSpec.upto (s : _root_.Go.ChangeSpec) : _root_.Go.OpenSpec := { _root_.Go.OpenSpec.ofChange s with cond := some uptoSmall }

/-- 'apographlaw13.LayoutPositions', WHERE WHAT IT READS IS OF BULK AT MOST 1048576: true; the input reads as it did. -/
def layoutPositionsUptoRow : OpenClaim := { program := "ytibinhnakljpmaadoor", sum := "c6e6090188202ab5ea622d4ac19f80632e99def5fb0499b1a58f0c99ae80ef45", func := "apograph/apographlaw13.LayoutPositions", spec := "layoutPositions", inPlace := ["internal/bytealg.IndexByteString", "internal/abi.NoEscape", "internal/bytealg.MakeNoZero"], unfollowed := true, recurses := true, named := ["apograph/transcript.forms", "internal/strconv.uint64pow10", "math/bits.deBruijn32tab", "math/bits.deBruijn64tab"], loops := true, apart := false, laid := [("math/bits.deBruijn32tab", laid_math_bits_deBruijn32tab), ("math/bits.deBruijn64tab", laid_math_bits_deBruijn64tab), ("internal/strconv.uint64pow10", laid_internal_strconv_uint64pow10), ("apograph/transcript.forms", laid_apograph_transcript_forms)], narrowed := true }
def LayoutPositionsUptoSaid : Prop := layoutPositionsUptoRow.holds Tryd.pinned (OpenSpec.upto layoutPositionsSpec)

/-- 'apographlaw13.LayoutCounts', WHERE WHAT IT READS IS OF BULK AT MOST 1048576: true; the input reads as it did. -/
def layoutCountsUptoRow : OpenClaim := { program := "ytibinhnakljpmaadoor", sum := "c6e6090188202ab5ea622d4ac19f80632e99def5fb0499b1a58f0c99ae80ef45", func := "apograph/apographlaw13.LayoutCounts", spec := "layoutCounts", inPlace := ["internal/bytealg.IndexByteString", "internal/abi.NoEscape", "internal/bytealg.MakeNoZero"], unfollowed := true, recurses := true, named := ["internal/strconv.uint64pow10", "math/bits.deBruijn32tab", "math/bits.deBruijn64tab", "apograph/transcript.forms"], loops := true, apart := false, laid := [("math/bits.deBruijn32tab", laid_math_bits_deBruijn32tab), ("math/bits.deBruijn64tab", laid_math_bits_deBruijn64tab), ("internal/strconv.uint64pow10", laid_internal_strconv_uint64pow10), ("apograph/transcript.forms", laid_apograph_transcript_forms)], narrowed := true }
def LayoutCountsUptoSaid : Prop := layoutCountsUptoRow.holds Tryd.pinned (OpenSpec.upto layoutCountsSpec)

/-- 'apographlaw13.LayoutBroken', WHERE WHAT IT READS IS OF BULK AT MOST 1048576: true; the input reads as it did. -/
def layoutBrokenUptoRow : OpenClaim := { program := "ytibinhnakljpmaadoor", sum := "c6e6090188202ab5ea622d4ac19f80632e99def5fb0499b1a58f0c99ae80ef45", func := "apograph/apographlaw13.LayoutBroken", spec := "layoutBroken", inPlace := ["internal/bytealg.IndexByteString", "internal/abi.NoEscape", "internal/bytealg.MakeNoZero"], unfollowed := true, recurses := true, named := ["internal/strconv.uint64pow10", "math/bits.deBruijn32tab", "math/bits.deBruijn64tab", "apograph/transcript.forms"], loops := true, apart := false, laid := [("math/bits.deBruijn32tab", laid_math_bits_deBruijn32tab), ("math/bits.deBruijn64tab", laid_math_bits_deBruijn64tab), ("internal/strconv.uint64pow10", laid_internal_strconv_uint64pow10), ("apograph/transcript.forms", laid_apograph_transcript_forms)], narrowed := true }
def LayoutBrokenUptoSaid : Prop := layoutBrokenUptoRow.holds Tryd.pinned (OpenSpec.upto layoutBrokenSpec)

/-- 'apographlaw13.LayoutStarts', WHERE WHAT IT READS IS OF BULK AT MOST 1048576: true; the input reads as it did. -/
def layoutStartsUptoRow : OpenClaim := { program := "ytibinhnakljpmaadoor", sum := "c6e6090188202ab5ea622d4ac19f80632e99def5fb0499b1a58f0c99ae80ef45", func := "apograph/apographlaw13.LayoutStarts", spec := "layoutStarts", inPlace := ["internal/bytealg.IndexByteString", "internal/abi.NoEscape", "internal/bytealg.MakeNoZero"], unfollowed := true, recurses := true, named := ["internal/strconv.uint64pow10", "math/bits.deBruijn32tab", "math/bits.deBruijn64tab", "apograph/transcript.forms"], loops := true, apart := false, laid := [("math/bits.deBruijn32tab", laid_math_bits_deBruijn32tab), ("math/bits.deBruijn64tab", laid_math_bits_deBruijn64tab), ("internal/strconv.uint64pow10", laid_internal_strconv_uint64pow10), ("apograph/transcript.forms", laid_apograph_transcript_forms)], narrowed := true }
def LayoutStartsUptoSaid : Prop := layoutStartsUptoRow.holds Tryd.pinned (OpenSpec.upto layoutStartsSpec)

/-- 'apographlaw13.LayoutFind', WHERE WHAT IT READS IS OF BULK AT MOST 1048576: true; the input reads as it did. -/
def layoutFindUptoRow : OpenClaim := { program := "ytibinhnakljpmaadoor", sum := "c6e6090188202ab5ea622d4ac19f80632e99def5fb0499b1a58f0c99ae80ef45", func := "apograph/apographlaw13.LayoutFind", spec := "layoutFind", inPlace := ["internal/bytealg.IndexByteString", "internal/abi.NoEscape", "internal/bytealg.MakeNoZero"], unfollowed := true, recurses := true, named := ["internal/strconv.uint64pow10", "math/bits.deBruijn32tab", "math/bits.deBruijn64tab", "apograph/transcript.forms"], loops := true, apart := false, laid := [("math/bits.deBruijn32tab", laid_math_bits_deBruijn32tab), ("math/bits.deBruijn64tab", laid_math_bits_deBruijn64tab), ("internal/strconv.uint64pow10", laid_internal_strconv_uint64pow10), ("apograph/transcript.forms", laid_apograph_transcript_forms)], narrowed := true }
def LayoutFindUptoSaid : Prop := layoutFindUptoRow.holds Tryd.pinned (OpenSpec.upto layoutFindSpec)

/-- 'apographlaw13.LayoutOrder', WHERE WHAT IT READS IS OF BULK AT MOST 1048576: true; the input reads as it did. -/
def layoutOrderUptoRow : OpenClaim := { program := "ytibinhnakljpmaadoor", sum := "c6e6090188202ab5ea622d4ac19f80632e99def5fb0499b1a58f0c99ae80ef45", func := "apograph/apographlaw13.LayoutOrder", spec := "layoutOrder", inPlace := ["internal/bytealg.IndexByteString", "internal/abi.NoEscape", "internal/bytealg.MakeNoZero"], unfollowed := true, recurses := true, named := ["internal/strconv.uint64pow10", "math/bits.deBruijn32tab", "math/bits.deBruijn64tab", "apograph/transcript.forms"], loops := true, apart := false, laid := [("math/bits.deBruijn32tab", laid_math_bits_deBruijn32tab), ("math/bits.deBruijn64tab", laid_math_bits_deBruijn64tab), ("internal/strconv.uint64pow10", laid_internal_strconv_uint64pow10), ("apograph/transcript.forms", laid_apograph_transcript_forms)], narrowed := true }
def LayoutOrderUptoSaid : Prop := layoutOrderUptoRow.holds Tryd.pinned (OpenSpec.upto layoutOrderSpec)

/-- 'apographlaw13.LayoutLines', WHERE WHAT IT READS IS OF BULK AT MOST 1048576: true; the input reads as it did. -/
def layoutLinesUptoRow : OpenClaim := { program := "ytibinhnakljpmaadoor", sum := "c6e6090188202ab5ea622d4ac19f80632e99def5fb0499b1a58f0c99ae80ef45", func := "apograph/apographlaw13.LayoutLines", spec := "layoutLines", inPlace := ["internal/bytealg.IndexByteString", "internal/abi.NoEscape", "internal/bytealg.MakeNoZero"], unfollowed := true, recurses := true, named := ["internal/strconv.uint64pow10", "math/bits.deBruijn32tab", "math/bits.deBruijn64tab", "apograph/transcript.forms"], loops := true, apart := false, laid := [("math/bits.deBruijn32tab", laid_math_bits_deBruijn32tab), ("math/bits.deBruijn64tab", laid_math_bits_deBruijn64tab), ("internal/strconv.uint64pow10", laid_internal_strconv_uint64pow10), ("apograph/transcript.forms", laid_apograph_transcript_forms)], narrowed := true }
def LayoutLinesUptoSaid : Prop := layoutLinesUptoRow.holds Tryd.pinned (OpenSpec.upto layoutLinesSpec)

end Rows
end Go.Proofs.YtibinhnakljpmaaDoor
