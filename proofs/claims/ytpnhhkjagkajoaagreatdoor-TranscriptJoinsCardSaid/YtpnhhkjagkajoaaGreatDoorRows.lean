/-
  NARROWER THAN 'FOR EVERY INPUT', by the rows' own cells (each row's printed sentence says how): TranscriptReads: laid · TranscriptBack: loops, laid · TranscriptWraps: loops, laid · TranscriptMerges: loops, laid · TranscriptLexemes: laid · TranscriptNodes: loops, laid · TranscriptJoins: loops, laid.
  DERIVED. THE GIVEN ROWS OF THIS SEAT. 7 by the template 'for every input the law returns true; each argument reads behind the call as it read before'; 0 by the template 'total and deterministic' (their statements: YtpnhhkjagkajoaaGreatDoorTotals.lean).
  GIVEN WITH THE SEED: the statements are not yours to turn. If you find one false, say at which input.
  Laid BY PROGRAM, IN A SANDBOX (cutbox-rows.mjs): the forced cells as the released guide's own fill.sh prints them over the translation 3daaf8fd04cbc29b… (all of the seat's roots in one cut). By AI agents, Wed Nov 11 2026. No macro, syntax, notation, axiom, sorry.
-/
import Derived.Test.YtpnhhkjagkajoaaGreatDoorChecked
import GoSem.Claim
import GoSem.ClaimJoined
import GoSem.ClaimMapViews
import Derived.JoinedTies
import Derived.KernelRfl
namespace Go.Proofs.YtpnhhkjagkajoaaGreatDoor
/- THE CELL 'sum', in the pinned program and in every row, IS THE sha256 OF THE DUMP (.gsa) THAT YtpnhhkjagkajoaaGreatDoorProg.lean LOADS. Nothing in Lean hashes anything: it is a label: what it is worth is what the hold of that sum in a sandbox is worth. -/
noncomputable def Tryz.pinned : Pinned := { name := "ytpnhhkjagkajoaagreatdoor", sum := "3daaf8fd04cbc29b7249a05229c27e5f7ddd97e63e25502e8fc53b866fc7ad2a", checked := Tryz.checked }
namespace Rows
def none {H : Type} : Left H := { results := [], args := [] }

/- WHAT THE LISTED PACKAGE-LEVEL VARIABLES READ AS WHEN THE CALL BEGINS. Each datum BY PROGRAM (the guide's laid-datum.mjs) off the statement by which the dump's own 'gosem.cut.vars' lays the variable. In a bare row this is a premise. The card (YtpnhhkjagkajoaaGreatDoorCards.lean) ties it to the program's text. -/
def laid_math_bits_deBruijn32tab {H : Type} : DataW H := .agg [.lit (.int .u8 0), .lit (.int .u8 1), .lit (.int .u8 28), .lit (.int .u8 2), .lit (.int .u8 29), .lit (.int .u8 14), .lit (.int .u8 24), .lit (.int .u8 3), .lit (.int .u8 30), .lit (.int .u8 22), .lit (.int .u8 20), .lit (.int .u8 15), .lit (.int .u8 25), .lit (.int .u8 17), .lit (.int .u8 4), .lit (.int .u8 8), .lit (.int .u8 31), .lit (.int .u8 27), .lit (.int .u8 13), .lit (.int .u8 23), .lit (.int .u8 21), .lit (.int .u8 19), .lit (.int .u8 16), .lit (.int .u8 7), .lit (.int .u8 26), .lit (.int .u8 12), .lit (.int .u8 18), .lit (.int .u8 6), .lit (.int .u8 11), .lit (.int .u8 5), .lit (.int .u8 10), .lit (.int .u8 9)]
def laid_math_bits_deBruijn64tab {H : Type} : DataW H := .agg [.lit (.int .u8 0), .lit (.int .u8 1), .lit (.int .u8 56), .lit (.int .u8 2), .lit (.int .u8 57), .lit (.int .u8 49), .lit (.int .u8 28), .lit (.int .u8 3), .lit (.int .u8 61), .lit (.int .u8 58), .lit (.int .u8 42), .lit (.int .u8 50), .lit (.int .u8 38), .lit (.int .u8 29), .lit (.int .u8 17), .lit (.int .u8 4), .lit (.int .u8 62), .lit (.int .u8 47), .lit (.int .u8 59), .lit (.int .u8 36), .lit (.int .u8 45), .lit (.int .u8 43), .lit (.int .u8 51), .lit (.int .u8 22), .lit (.int .u8 53), .lit (.int .u8 39), .lit (.int .u8 33), .lit (.int .u8 30), .lit (.int .u8 24), .lit (.int .u8 18), .lit (.int .u8 12), .lit (.int .u8 5), .lit (.int .u8 63), .lit (.int .u8 55), .lit (.int .u8 48), .lit (.int .u8 27), .lit (.int .u8 60), .lit (.int .u8 41), .lit (.int .u8 37), .lit (.int .u8 16), .lit (.int .u8 46), .lit (.int .u8 35), .lit (.int .u8 44), .lit (.int .u8 21), .lit (.int .u8 52), .lit (.int .u8 32), .lit (.int .u8 23), .lit (.int .u8 11), .lit (.int .u8 54), .lit (.int .u8 26), .lit (.int .u8 40), .lit (.int .u8 15), .lit (.int .u8 34), .lit (.int .u8 20), .lit (.int .u8 31), .lit (.int .u8 10), .lit (.int .u8 25), .lit (.int .u8 14), .lit (.int .u8 19), .lit (.int .u8 9), .lit (.int .u8 13), .lit (.int .u8 8), .lit (.int .u8 7), .lit (.int .u8 6)]
def laid_internal_strconv_uint64pow10 {H : Type} : DataW H := .agg [.lit (.int .u64 1), .lit (.int .u64 10), .lit (.int .u64 100), .lit (.int .u64 1000), .lit (.int .u64 10000), .lit (.int .u64 100000), .lit (.int .u64 1000000), .lit (.int .u64 10000000), .lit (.int .u64 100000000), .lit (.int .u64 1000000000), .lit (.int .u64 10000000000), .lit (.int .u64 100000000000), .lit (.int .u64 1000000000000), .lit (.int .u64 10000000000000), .lit (.int .u64 100000000000000), .lit (.int .u64 1000000000000000), .lit (.int .u64 10000000000000000), .lit (.int .u64 100000000000000000), .lit (.int .u64 1000000000000000000), .lit (.int .u64 10000000000000000000)]
def laid_strconv_ErrRange {H : Type} : DataW H := .iface "*errors.errorString" (.ptr (.agg [.lit (.string [118, 97, 108, 117, 101, 32, 111, 117, 116, 32, 111, 102, 32, 114, 97, 110, 103, 101])]))
def laid_strconv_ErrSyntax {H : Type} : DataW H := .iface "*errors.errorString" (.ptr (.agg [.lit (.string [105, 110, 118, 97, 108, 105, 100, 32, 115, 121, 110, 116, 97, 120])]))
def laid_apograph_transcript_forms {H : Type} : DataW H := .agg [.agg [.lit (.string []), .lit (.bool false), .lit (.bool false), .lit (.bool false)], .agg [.lit (.string []), .lit (.bool true), .lit (.bool false), .lit (.bool false)], .agg [.lit (.string [108, 98]), .lit (.bool false), .lit (.bool false), .lit (.bool false)], .agg [.lit (.string [112, 98]), .lit (.bool true), .lit (.bool false), .lit (.bool false)], .agg [.lit (.string [115, 101, 99]), .lit (.bool true), .lit (.bool false), .lit (.bool false)], .agg [.lit (.string [118]), .lit (.bool false), .lit (.bool false), .lit (.bool false)], .agg [.lit (.string [103, 97, 112]), .lit (.bool false), .lit (.bool true), .lit (.bool false)], .agg [.lit (.string [117, 110, 99, 108, 101, 97, 114]), .lit (.bool false), .lit (.bool false), .lit (.bool true)], .agg [.lit (.string [97, 100, 100]), .lit (.bool false), .lit (.bool true), .lit (.bool true)], .agg [.lit (.string [100, 101, 108]), .lit (.bool false), .lit (.bool true), .lit (.bool true)], .agg [.lit (.string [97, 98]), .lit (.bool true), .lit (.bool false), .lit (.bool true)], .agg [.lit (.string [110, 97, 109, 101]), .lit (.bool true), .lit (.bool false), .lit (.bool true)]]

/-- 'apographlaw10.TranscriptReads': WHATEVER THE INPUT: true; the input reads as it did. -/
def transcriptReadsSpec : ChangeSpec := { name := "transcriptReads", fn := fun _ => fun
  | [d] => { results := [.lit (.bool true)], args := [d] }
  | _ => none }
def transcriptReadsRow : OpenClaim := { program := "ytpnhhkjagkajoaagreatdoor", sum := "3daaf8fd04cbc29b7249a05229c27e5f7ddd97e63e25502e8fc53b866fc7ad2a", func := "apograph/apographlaw10.TranscriptReads", spec := "transcriptReads", inPlace := ["internal/bytealg.IndexByteString", "internal/bytealg.IndexString", "internal/abi.NoEscape"], unfollowed := true, recurses := true, named := ["strconv.ErrSyntax", "strconv.ErrRange", "internal/strconv.uint64pow10", "math/bits.deBruijn32tab", "math/bits.deBruijn64tab", "internal/bytealg.MaxLen", "apograph/transcript.forms"], apart := false, laid := [("math/bits.deBruijn32tab", laid_math_bits_deBruijn32tab), ("math/bits.deBruijn64tab", laid_math_bits_deBruijn64tab), ("internal/strconv.uint64pow10", laid_internal_strconv_uint64pow10), ("strconv.ErrRange", laid_strconv_ErrRange), ("strconv.ErrSyntax", laid_strconv_ErrSyntax), ("apograph/transcript.forms", laid_apograph_transcript_forms)] }
def TranscriptReadsSaid : Prop := transcriptReadsRow.holds Tryz.pinned (OpenSpec.ofChange transcriptReadsSpec)

/-- ITS FALSE NEIGHBOUR: 'it returns false'. Refute it at one input. -/
def transcriptReadsWrong : ChangeSpec := { name := "transcriptReads", fn := fun _ => fun
  | [d] => { results := [.lit (.bool false)], args := [d] }
  | _ => none }
def TranscriptReadsWrongFalsely : Prop := transcriptReadsRow.holds Tryz.pinned (OpenSpec.ofChange transcriptReadsWrong)

/-- 'apographlaw10.TranscriptBack': WHATEVER THE INPUT: true; the input reads as it did. -/
def transcriptBackSpec : ChangeSpec := { name := "transcriptBack", fn := fun _ => fun
  | [d1, d2] => { results := [.lit (.bool true)], args := [d1, d2] }
  | _ => none }
def transcriptBackRow : OpenClaim := { program := "ytpnhhkjagkajoaagreatdoor", sum := "3daaf8fd04cbc29b7249a05229c27e5f7ddd97e63e25502e8fc53b866fc7ad2a", func := "apograph/apographlaw10.TranscriptBack", spec := "transcriptBack", inPlace := ["internal/bytealg.IndexByteString", "internal/abi.NoEscape", "internal/bytealg.IndexString"], unfollowed := true, recurses := true, named := ["internal/strconv.uint64pow10", "math/bits.deBruijn32tab", "math/bits.deBruijn64tab", "apograph/transcript.forms", "strconv.ErrSyntax", "strconv.ErrRange", "internal/bytealg.MaxLen"], loops := true, apart := false, laid := [("math/bits.deBruijn32tab", laid_math_bits_deBruijn32tab), ("math/bits.deBruijn64tab", laid_math_bits_deBruijn64tab), ("internal/strconv.uint64pow10", laid_internal_strconv_uint64pow10), ("strconv.ErrRange", laid_strconv_ErrRange), ("strconv.ErrSyntax", laid_strconv_ErrSyntax), ("apograph/transcript.forms", laid_apograph_transcript_forms)] }
def TranscriptBackSaid : Prop := transcriptBackRow.holds Tryz.pinned (OpenSpec.ofChange transcriptBackSpec)

/-- ITS FALSE NEIGHBOUR: 'it returns false'. Refute it at one input. -/
def transcriptBackWrong : ChangeSpec := { name := "transcriptBack", fn := fun _ => fun
  | [d1, d2] => { results := [.lit (.bool false)], args := [d1, d2] }
  | _ => none }
def TranscriptBackWrongFalsely : Prop := transcriptBackRow.holds Tryz.pinned (OpenSpec.ofChange transcriptBackWrong)

/-- 'apographlaw10.TranscriptWraps': WHATEVER THE INPUT: true; the input reads as it did. -/
def transcriptWrapsSpec : ChangeSpec := { name := "transcriptWraps", fn := fun _ => fun
  | [d1, d2] => { results := [.lit (.bool true)], args := [d1, d2] }
  | _ => none }
def transcriptWrapsRow : OpenClaim := { program := "ytpnhhkjagkajoaagreatdoor", sum := "3daaf8fd04cbc29b7249a05229c27e5f7ddd97e63e25502e8fc53b866fc7ad2a", func := "apograph/apographlaw10.TranscriptWraps", spec := "transcriptWraps", inPlace := ["internal/bytealg.IndexByteString", "internal/bytealg.IndexString", "internal/abi.NoEscape"], unfollowed := true, recurses := true, named := ["internal/strconv.uint64pow10", "math/bits.deBruijn32tab", "math/bits.deBruijn64tab", "strconv.ErrSyntax", "strconv.ErrRange", "internal/bytealg.MaxLen", "apograph/transcript.forms"], loops := true, apart := false, laid := [("math/bits.deBruijn32tab", laid_math_bits_deBruijn32tab), ("math/bits.deBruijn64tab", laid_math_bits_deBruijn64tab), ("internal/strconv.uint64pow10", laid_internal_strconv_uint64pow10), ("strconv.ErrRange", laid_strconv_ErrRange), ("strconv.ErrSyntax", laid_strconv_ErrSyntax), ("apograph/transcript.forms", laid_apograph_transcript_forms)] }
def TranscriptWrapsSaid : Prop := transcriptWrapsRow.holds Tryz.pinned (OpenSpec.ofChange transcriptWrapsSpec)

/-- ITS FALSE NEIGHBOUR: 'it returns false'. Refute it at one input. -/
def transcriptWrapsWrong : ChangeSpec := { name := "transcriptWraps", fn := fun _ => fun
  | [d1, d2] => { results := [.lit (.bool false)], args := [d1, d2] }
  | _ => none }
def TranscriptWrapsWrongFalsely : Prop := transcriptWrapsRow.holds Tryz.pinned (OpenSpec.ofChange transcriptWrapsWrong)

/-- 'apographlaw10.TranscriptMerges': WHATEVER THE INPUT: true; the input reads as it did. -/
def transcriptMergesSpec : ChangeSpec := { name := "transcriptMerges", fn := fun _ => fun
  | [d] => { results := [.lit (.bool true)], args := [d] }
  | _ => none }
def transcriptMergesRow : OpenClaim := { program := "ytpnhhkjagkajoaagreatdoor", sum := "3daaf8fd04cbc29b7249a05229c27e5f7ddd97e63e25502e8fc53b866fc7ad2a", func := "apograph/apographlaw10.TranscriptMerges", spec := "transcriptMerges", inPlace := ["internal/bytealg.IndexByteString", "internal/bytealg.IndexString", "internal/abi.NoEscape"], unfollowed := true, recurses := true, named := ["strconv.ErrSyntax", "strconv.ErrRange", "internal/strconv.uint64pow10", "math/bits.deBruijn32tab", "math/bits.deBruijn64tab", "internal/bytealg.MaxLen", "apograph/transcript.forms"], loops := true, apart := false, laid := [("math/bits.deBruijn32tab", laid_math_bits_deBruijn32tab), ("math/bits.deBruijn64tab", laid_math_bits_deBruijn64tab), ("internal/strconv.uint64pow10", laid_internal_strconv_uint64pow10), ("strconv.ErrRange", laid_strconv_ErrRange), ("strconv.ErrSyntax", laid_strconv_ErrSyntax), ("apograph/transcript.forms", laid_apograph_transcript_forms)] }
def TranscriptMergesSaid : Prop := transcriptMergesRow.holds Tryz.pinned (OpenSpec.ofChange transcriptMergesSpec)

/-- ITS FALSE NEIGHBOUR: 'it returns false'. Refute it at one input. -/
def transcriptMergesWrong : ChangeSpec := { name := "transcriptMerges", fn := fun _ => fun
  | [d] => { results := [.lit (.bool false)], args := [d] }
  | _ => none }
def TranscriptMergesWrongFalsely : Prop := transcriptMergesRow.holds Tryz.pinned (OpenSpec.ofChange transcriptMergesWrong)

/-- 'apographlaw10.TranscriptLexemes': WHATEVER THE INPUT: true; the input reads as it did. -/
def transcriptLexemesSpec : ChangeSpec := { name := "transcriptLexemes", fn := fun _ => fun
  | [d] => { results := [.lit (.bool true)], args := [d] }
  | _ => none }
def transcriptLexemesRow : OpenClaim := { program := "ytpnhhkjagkajoaagreatdoor", sum := "3daaf8fd04cbc29b7249a05229c27e5f7ddd97e63e25502e8fc53b866fc7ad2a", func := "apograph/apographlaw10.TranscriptLexemes", spec := "transcriptLexemes", inPlace := ["internal/bytealg.IndexByteString", "internal/bytealg.IndexString", "internal/abi.NoEscape"], unfollowed := true, recurses := true, named := ["strconv.ErrSyntax", "strconv.ErrRange", "internal/strconv.uint64pow10", "math/bits.deBruijn32tab", "math/bits.deBruijn64tab", "internal/bytealg.MaxLen", "apograph/transcript.forms"], apart := false, laid := [("math/bits.deBruijn32tab", laid_math_bits_deBruijn32tab), ("math/bits.deBruijn64tab", laid_math_bits_deBruijn64tab), ("internal/strconv.uint64pow10", laid_internal_strconv_uint64pow10), ("strconv.ErrRange", laid_strconv_ErrRange), ("strconv.ErrSyntax", laid_strconv_ErrSyntax), ("apograph/transcript.forms", laid_apograph_transcript_forms)] }
def TranscriptLexemesSaid : Prop := transcriptLexemesRow.holds Tryz.pinned (OpenSpec.ofChange transcriptLexemesSpec)

/-- ITS FALSE NEIGHBOUR: 'it returns false'. Refute it at one input. -/
def transcriptLexemesWrong : ChangeSpec := { name := "transcriptLexemes", fn := fun _ => fun
  | [d] => { results := [.lit (.bool false)], args := [d] }
  | _ => none }
def TranscriptLexemesWrongFalsely : Prop := transcriptLexemesRow.holds Tryz.pinned (OpenSpec.ofChange transcriptLexemesWrong)

/-- 'apographlaw10.TranscriptNodes': WHATEVER THE INPUT: true; the input reads as it did. -/
def transcriptNodesSpec : ChangeSpec := { name := "transcriptNodes", fn := fun _ => fun
  | [d1, d2, d3] => { results := [.lit (.bool true)], args := [d1, d2, d3] }
  | _ => none }
def transcriptNodesRow : OpenClaim := { program := "ytpnhhkjagkajoaagreatdoor", sum := "3daaf8fd04cbc29b7249a05229c27e5f7ddd97e63e25502e8fc53b866fc7ad2a", func := "apograph/apographlaw10.TranscriptNodes", spec := "transcriptNodes", inPlace := ["internal/bytealg.IndexByteString", "internal/bytealg.IndexString", "internal/abi.NoEscape"], unfollowed := true, recurses := true, named := ["strconv.ErrSyntax", "strconv.ErrRange", "internal/strconv.uint64pow10", "math/bits.deBruijn32tab", "math/bits.deBruijn64tab", "internal/bytealg.MaxLen", "apograph/transcript.forms"], loops := true, apart := false, laid := [("math/bits.deBruijn32tab", laid_math_bits_deBruijn32tab), ("math/bits.deBruijn64tab", laid_math_bits_deBruijn64tab), ("internal/strconv.uint64pow10", laid_internal_strconv_uint64pow10), ("strconv.ErrRange", laid_strconv_ErrRange), ("strconv.ErrSyntax", laid_strconv_ErrSyntax), ("apograph/transcript.forms", laid_apograph_transcript_forms)] }
def TranscriptNodesSaid : Prop := transcriptNodesRow.holds Tryz.pinned (OpenSpec.ofChange transcriptNodesSpec)

/-- ITS FALSE NEIGHBOUR: 'it returns false'. Refute it at one input. -/
def transcriptNodesWrong : ChangeSpec := { name := "transcriptNodes", fn := fun _ => fun
  | [d1, d2, d3] => { results := [.lit (.bool false)], args := [d1, d2, d3] }
  | _ => none }
def TranscriptNodesWrongFalsely : Prop := transcriptNodesRow.holds Tryz.pinned (OpenSpec.ofChange transcriptNodesWrong)

/-- 'apographlaw10.TranscriptJoins': WHATEVER THE INPUT: true; the input reads as it did. -/
def transcriptJoinsSpec : ChangeSpec := { name := "transcriptJoins", fn := fun _ => fun
  | [d1, d2, d3] => { results := [.lit (.bool true)], args := [d1, d2, d3] }
  | _ => none }
def transcriptJoinsRow : OpenClaim := { program := "ytpnhhkjagkajoaagreatdoor", sum := "3daaf8fd04cbc29b7249a05229c27e5f7ddd97e63e25502e8fc53b866fc7ad2a", func := "apograph/apographlaw10.TranscriptJoins", spec := "transcriptJoins", inPlace := ["internal/bytealg.IndexByteString", "internal/bytealg.IndexString", "internal/abi.NoEscape"], unfollowed := true, recurses := true, named := ["internal/strconv.uint64pow10", "math/bits.deBruijn32tab", "math/bits.deBruijn64tab", "strconv.ErrSyntax", "strconv.ErrRange", "internal/bytealg.MaxLen", "apograph/transcript.forms"], loops := true, apart := false, laid := [("math/bits.deBruijn32tab", laid_math_bits_deBruijn32tab), ("math/bits.deBruijn64tab", laid_math_bits_deBruijn64tab), ("internal/strconv.uint64pow10", laid_internal_strconv_uint64pow10), ("strconv.ErrRange", laid_strconv_ErrRange), ("strconv.ErrSyntax", laid_strconv_ErrSyntax), ("apograph/transcript.forms", laid_apograph_transcript_forms)] }
def TranscriptJoinsSaid : Prop := transcriptJoinsRow.holds Tryz.pinned (OpenSpec.ofChange transcriptJoinsSpec)

/-- ITS FALSE NEIGHBOUR: 'it returns false'. Refute it at one input. -/
def transcriptJoinsWrong : ChangeSpec := { name := "transcriptJoins", fn := fun _ => fun
  | [d1, d2, d3] => { results := [.lit (.bool false)], args := [d1, d2, d3] }
  | _ => none }
def TranscriptJoinsWrongFalsely : Prop := transcriptJoinsRow.holds Tryz.pinned (OpenSpec.ofChange transcriptJoinsWrong)

/- THE SECOND FORM. 'bulk': how many values and letters a reading holds, each counted each time it is reached (what is shared counts as often as it is met; a slice's spare places count too). A statement '..UptoSaid' is the law's where the arguments, and the package variables that the reading takes, are together of bulk at most 1048576: NARROWER than '..Said'. Prove '..Said' where nothing that the law and all that it calls make is longer than what came in: it says more and counts as full. Else prove '..UptoSaid'. A law counts once. -/
mutual
def uptoBulk {H : Type} : DataW H → Nat
  | .lit (.string bytes) => bytes.length + 1
  | .lit _ => 1
  | .nil => 1
  | .ptr d => uptoBulk d + 1
  | .slice elems spare => uptoBulkAll elems + uptoBulkAll spare + 1
  | .agg parts => uptoBulkAll parts + 1
  | .iface _ d => uptoBulk d + 1
  | .map entries => uptoBulkEntries entries + 1
  | .held _ => 1
def uptoBulkAll {H : Type} : List (DataW H) → Nat
  | [] => 0
  | d :: r => uptoBulk d + uptoBulkAll r
def uptoBulkEntries {H : Type} : List (Lit × DataW H) → Nat
  | [] => 0
  | x :: r => uptoBulkEntry x + uptoBulkEntries r
def uptoBulkEntry {H : Type} : Lit × DataW H → Nat
  | (.string bytes, d) => bytes.length + uptoBulk d + 1
  | (_, d) => uptoBulk d + 1
 end
def uptoSmall : (H : Type) → List (DataW H) → Bool := fun _ ds => decide (uptoBulkAll ds ≤ 1048576)
def OpenSpec.upto (s : _root_.Go.ChangeSpec) : _root_.Go.OpenSpec := { _root_.Go.OpenSpec.ofChange s with cond := some uptoSmall }

/-- 'apographlaw10.TranscriptReads', WHERE WHAT IT READS IS OF BULK AT MOST 1048576: true; the input reads as it did. -/
def transcriptReadsUptoRow : OpenClaim := { program := "ytpnhhkjagkajoaagreatdoor", sum := "3daaf8fd04cbc29b7249a05229c27e5f7ddd97e63e25502e8fc53b866fc7ad2a", func := "apograph/apographlaw10.TranscriptReads", spec := "transcriptReads", inPlace := ["internal/bytealg.IndexByteString", "internal/bytealg.IndexString", "internal/abi.NoEscape"], unfollowed := true, recurses := true, named := ["strconv.ErrSyntax", "strconv.ErrRange", "internal/strconv.uint64pow10", "math/bits.deBruijn32tab", "math/bits.deBruijn64tab", "internal/bytealg.MaxLen", "apograph/transcript.forms"], apart := false, laid := [("math/bits.deBruijn32tab", laid_math_bits_deBruijn32tab), ("math/bits.deBruijn64tab", laid_math_bits_deBruijn64tab), ("internal/strconv.uint64pow10", laid_internal_strconv_uint64pow10), ("strconv.ErrRange", laid_strconv_ErrRange), ("strconv.ErrSyntax", laid_strconv_ErrSyntax), ("apograph/transcript.forms", laid_apograph_transcript_forms)], narrowed := true }
def TranscriptReadsUptoSaid : Prop := transcriptReadsUptoRow.holds Tryz.pinned (OpenSpec.upto transcriptReadsSpec)

/-- 'apographlaw10.TranscriptBack', WHERE WHAT IT READS IS OF BULK AT MOST 1048576: true; the input reads as it did. -/
def transcriptBackUptoRow : OpenClaim := { program := "ytpnhhkjagkajoaagreatdoor", sum := "3daaf8fd04cbc29b7249a05229c27e5f7ddd97e63e25502e8fc53b866fc7ad2a", func := "apograph/apographlaw10.TranscriptBack", spec := "transcriptBack", inPlace := ["internal/bytealg.IndexByteString", "internal/abi.NoEscape", "internal/bytealg.IndexString"], unfollowed := true, recurses := true, named := ["internal/strconv.uint64pow10", "math/bits.deBruijn32tab", "math/bits.deBruijn64tab", "apograph/transcript.forms", "strconv.ErrSyntax", "strconv.ErrRange", "internal/bytealg.MaxLen"], loops := true, apart := false, laid := [("math/bits.deBruijn32tab", laid_math_bits_deBruijn32tab), ("math/bits.deBruijn64tab", laid_math_bits_deBruijn64tab), ("internal/strconv.uint64pow10", laid_internal_strconv_uint64pow10), ("strconv.ErrRange", laid_strconv_ErrRange), ("strconv.ErrSyntax", laid_strconv_ErrSyntax), ("apograph/transcript.forms", laid_apograph_transcript_forms)], narrowed := true }
def TranscriptBackUptoSaid : Prop := transcriptBackUptoRow.holds Tryz.pinned (OpenSpec.upto transcriptBackSpec)

/-- 'apographlaw10.TranscriptWraps', WHERE WHAT IT READS IS OF BULK AT MOST 1048576: true; the input reads as it did. -/
def transcriptWrapsUptoRow : OpenClaim := { program := "ytpnhhkjagkajoaagreatdoor", sum := "3daaf8fd04cbc29b7249a05229c27e5f7ddd97e63e25502e8fc53b866fc7ad2a", func := "apograph/apographlaw10.TranscriptWraps", spec := "transcriptWraps", inPlace := ["internal/bytealg.IndexByteString", "internal/bytealg.IndexString", "internal/abi.NoEscape"], unfollowed := true, recurses := true, named := ["internal/strconv.uint64pow10", "math/bits.deBruijn32tab", "math/bits.deBruijn64tab", "strconv.ErrSyntax", "strconv.ErrRange", "internal/bytealg.MaxLen", "apograph/transcript.forms"], loops := true, apart := false, laid := [("math/bits.deBruijn32tab", laid_math_bits_deBruijn32tab), ("math/bits.deBruijn64tab", laid_math_bits_deBruijn64tab), ("internal/strconv.uint64pow10", laid_internal_strconv_uint64pow10), ("strconv.ErrRange", laid_strconv_ErrRange), ("strconv.ErrSyntax", laid_strconv_ErrSyntax), ("apograph/transcript.forms", laid_apograph_transcript_forms)], narrowed := true }
def TranscriptWrapsUptoSaid : Prop := transcriptWrapsUptoRow.holds Tryz.pinned (OpenSpec.upto transcriptWrapsSpec)

/-- 'apographlaw10.TranscriptMerges', WHERE WHAT IT READS IS OF BULK AT MOST 1048576: true; the input reads as it did. -/
def transcriptMergesUptoRow : OpenClaim := { program := "ytpnhhkjagkajoaagreatdoor", sum := "3daaf8fd04cbc29b7249a05229c27e5f7ddd97e63e25502e8fc53b866fc7ad2a", func := "apograph/apographlaw10.TranscriptMerges", spec := "transcriptMerges", inPlace := ["internal/bytealg.IndexByteString", "internal/bytealg.IndexString", "internal/abi.NoEscape"], unfollowed := true, recurses := true, named := ["strconv.ErrSyntax", "strconv.ErrRange", "internal/strconv.uint64pow10", "math/bits.deBruijn32tab", "math/bits.deBruijn64tab", "internal/bytealg.MaxLen", "apograph/transcript.forms"], loops := true, apart := false, laid := [("math/bits.deBruijn32tab", laid_math_bits_deBruijn32tab), ("math/bits.deBruijn64tab", laid_math_bits_deBruijn64tab), ("internal/strconv.uint64pow10", laid_internal_strconv_uint64pow10), ("strconv.ErrRange", laid_strconv_ErrRange), ("strconv.ErrSyntax", laid_strconv_ErrSyntax), ("apograph/transcript.forms", laid_apograph_transcript_forms)], narrowed := true }
def TranscriptMergesUptoSaid : Prop := transcriptMergesUptoRow.holds Tryz.pinned (OpenSpec.upto transcriptMergesSpec)

/-- 'apographlaw10.TranscriptLexemes', WHERE WHAT IT READS IS OF BULK AT MOST 1048576: true; the input reads as it did. -/
def transcriptLexemesUptoRow : OpenClaim := { program := "ytpnhhkjagkajoaagreatdoor", sum := "3daaf8fd04cbc29b7249a05229c27e5f7ddd97e63e25502e8fc53b866fc7ad2a", func := "apograph/apographlaw10.TranscriptLexemes", spec := "transcriptLexemes", inPlace := ["internal/bytealg.IndexByteString", "internal/bytealg.IndexString", "internal/abi.NoEscape"], unfollowed := true, recurses := true, named := ["strconv.ErrSyntax", "strconv.ErrRange", "internal/strconv.uint64pow10", "math/bits.deBruijn32tab", "math/bits.deBruijn64tab", "internal/bytealg.MaxLen", "apograph/transcript.forms"], apart := false, laid := [("math/bits.deBruijn32tab", laid_math_bits_deBruijn32tab), ("math/bits.deBruijn64tab", laid_math_bits_deBruijn64tab), ("internal/strconv.uint64pow10", laid_internal_strconv_uint64pow10), ("strconv.ErrRange", laid_strconv_ErrRange), ("strconv.ErrSyntax", laid_strconv_ErrSyntax), ("apograph/transcript.forms", laid_apograph_transcript_forms)], narrowed := true }
def TranscriptLexemesUptoSaid : Prop := transcriptLexemesUptoRow.holds Tryz.pinned (OpenSpec.upto transcriptLexemesSpec)

/-- 'apographlaw10.TranscriptNodes', WHERE WHAT IT READS IS OF BULK AT MOST 1048576: true; the input reads as it did. -/
def transcriptNodesUptoRow : OpenClaim := { program := "ytpnhhkjagkajoaagreatdoor", sum := "3daaf8fd04cbc29b7249a05229c27e5f7ddd97e63e25502e8fc53b866fc7ad2a", func := "apograph/apographlaw10.TranscriptNodes", spec := "transcriptNodes", inPlace := ["internal/bytealg.IndexByteString", "internal/bytealg.IndexString", "internal/abi.NoEscape"], unfollowed := true, recurses := true, named := ["strconv.ErrSyntax", "strconv.ErrRange", "internal/strconv.uint64pow10", "math/bits.deBruijn32tab", "math/bits.deBruijn64tab", "internal/bytealg.MaxLen", "apograph/transcript.forms"], loops := true, apart := false, laid := [("math/bits.deBruijn32tab", laid_math_bits_deBruijn32tab), ("math/bits.deBruijn64tab", laid_math_bits_deBruijn64tab), ("internal/strconv.uint64pow10", laid_internal_strconv_uint64pow10), ("strconv.ErrRange", laid_strconv_ErrRange), ("strconv.ErrSyntax", laid_strconv_ErrSyntax), ("apograph/transcript.forms", laid_apograph_transcript_forms)], narrowed := true }
def TranscriptNodesUptoSaid : Prop := transcriptNodesUptoRow.holds Tryz.pinned (OpenSpec.upto transcriptNodesSpec)

/-- 'apographlaw10.TranscriptJoins', WHERE WHAT IT READS IS OF BULK AT MOST 1048576: true; the input reads as it did. -/
def transcriptJoinsUptoRow : OpenClaim := { program := "ytpnhhkjagkajoaagreatdoor", sum := "3daaf8fd04cbc29b7249a05229c27e5f7ddd97e63e25502e8fc53b866fc7ad2a", func := "apograph/apographlaw10.TranscriptJoins", spec := "transcriptJoins", inPlace := ["internal/bytealg.IndexByteString", "internal/bytealg.IndexString", "internal/abi.NoEscape"], unfollowed := true, recurses := true, named := ["internal/strconv.uint64pow10", "math/bits.deBruijn32tab", "math/bits.deBruijn64tab", "strconv.ErrSyntax", "strconv.ErrRange", "internal/bytealg.MaxLen", "apograph/transcript.forms"], loops := true, apart := false, laid := [("math/bits.deBruijn32tab", laid_math_bits_deBruijn32tab), ("math/bits.deBruijn64tab", laid_math_bits_deBruijn64tab), ("internal/strconv.uint64pow10", laid_internal_strconv_uint64pow10), ("strconv.ErrRange", laid_strconv_ErrRange), ("strconv.ErrSyntax", laid_strconv_ErrSyntax), ("apograph/transcript.forms", laid_apograph_transcript_forms)], narrowed := true }
def TranscriptJoinsUptoSaid : Prop := transcriptJoinsUptoRow.holds Tryz.pinned (OpenSpec.upto transcriptJoinsSpec)

end Rows
end Go.Proofs.YtpnhhkjagkajoaaGreatDoor
