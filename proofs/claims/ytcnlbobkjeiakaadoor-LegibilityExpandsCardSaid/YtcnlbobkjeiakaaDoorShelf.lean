/- The contracts of the library's functions, laid by program at this translation. -/
import Derived.Shelf.Strings.Builder1
import Derived.Shelf.Strings.Builder2
import Derived.Shelf.Strings.OnBuilder
import Derived.Shelf.Small.Strs
import Derived.Shelf.Strings.BuilderF
import Derived.Shelf.Strings.BuilderK
import Derived.Shelf.Utf8.RuneCount
import Derived.Shelf.Strings.Builder2Cap
import Derived.Shelf.Strconv.Itoa0
import Derived.Shelf.Strconv.Itoa1
import Derived.Shelf.LaysM
import Derived.Shelf.Strconv.Itoa2
import Derived.Shelf.Strconv.Itoa3
import Derived.Shelf.Strings.Search1
import Derived.Shelf.Strings.Search2
import Derived.Shelf.Strings.Search3
import Derived.Shelf.Strings.Count
import Derived.Shelf.Strings.Shaped
import Derived.Shelf.Strings.Prefix
import Derived.Shelf.Strings.Split
import Derived.Shelf.Strings.Replace
import Derived.Shelf.Strings.SplitShaped
import Derived.Shelf.Unicode.Decode
import Derived.Shelf.Strings.RuneCount
import Derived.Shelf.Bits.Mul64
import Derived.Shelf.Strings.Repeat
import Derived.Shelf.Unicode.DecodeSlow
import Derived.Shelf.Unicode.DecodeAny
import Derived.Shelf.Strings.BuilderCap
import Derived.Shelf.Slices.Turned
import Derived.Test.YtcnlbobkjeiakaaDoorProg
namespace Go.Proofs
open Go.Shelf
def Tryd.lays170_ren : Go.Shelf.Ren := ⟨fun | 170 => 80 | n => n, fun | 70 => 81 | 3 => 3 | 0 => 0 | 72 => 84 | 37 => 82 | 5 => 5 | n => n, fun | n => n⟩
theorem Tryd.lays170 : Go.Proofs.Lays.n170 Tryd.prog Tryd.lays170_ren := {
  mixed := by kernel_rfl
  f170 := Tryd.func80.trans (congrArg some (by kernel_rfl))
  t0 := Tryd.underlying0
  a0 := Tryd.isAgg0
  z0 := Tryd.sizeOf0
  v0 := Tryd.zeroValue0
  t3 := Tryd.underlying3
  a3 := Tryd.isAgg3
  z3 := Tryd.sizeOf3
  v3 := Tryd.zeroValue3
  t37 := Tryd.underlying82
  a37 := Tryd.isAgg82
  z37 := Tryd.sizeOf82
  v37 := Tryd.zeroValue82
  t70 := Tryd.underlying81
  a70 := Tryd.isAgg81
  z70 := Tryd.sizeOf81
  v70 := Tryd.zeroValue81
  t72 := Tryd.underlying84
  a72 := Tryd.isAgg84
  z72 := Tryd.sizeOf84
  v72 := Tryd.zeroValue84 }
open Go.RowKit in
theorem Tryd.Builder_Len (B b : Nat) (bs : List Value) (w : World) (h : Lib.IsBuilder 84 5 B b bs w) :
    Calls Tryd.prog 80 #[.pointer (some ⟨b, 0, none⟩)] w fun e w' => e = .returned (.int .i64 bs.length) ∧ w' = w := Any.Builder_Len Tryd.lays170 B b bs w h
def Tryd.lays169_ren : Go.Shelf.Ren := ⟨fun | 169 => 62 | n => n, fun | 70 => 81 | 9 => 9 | 0 => 0 | 72 => 84 | 37 => 82 | 127 => 115 | 3 => 3 | 5 => 5 | n => n, fun | n => n⟩
theorem Tryd.lays169 : Go.Proofs.Lays.n169 Tryd.prog Tryd.lays169_ren := {
  mixed := by kernel_rfl
  f169 := Tryd.func62.trans (congrArg some (by kernel_rfl))
  t0 := Tryd.underlying0
  a0 := Tryd.isAgg0
  z0 := Tryd.sizeOf0
  v0 := Tryd.zeroValue0
  t3 := Tryd.underlying3
  a3 := Tryd.isAgg3
  z3 := Tryd.sizeOf3
  v3 := Tryd.zeroValue3
  t9 := Tryd.underlying9
  a9 := Tryd.isAgg9
  z9 := Tryd.sizeOf9
  v9 := Tryd.zeroValue9
  t37 := Tryd.underlying82
  a37 := Tryd.isAgg82
  z37 := Tryd.sizeOf82
  v37 := Tryd.zeroValue82
  t70 := Tryd.underlying81
  a70 := Tryd.isAgg81
  z70 := Tryd.sizeOf81
  v70 := Tryd.zeroValue81
  t72 := Tryd.underlying84
  a72 := Tryd.isAgg84
  z72 := Tryd.sizeOf84
  v72 := Tryd.zeroValue84
  t127 := Tryd.underlying115
  a127 := Tryd.isAgg115
  z127 := Tryd.sizeOf115
  v127 := Tryd.zeroValue115 }
theorem Tryd.Builder_Extra_169 : Builder.Extra Tryd.prog Tryd.lays169_ren := {
  sizeBuilder := by kernel_rfl
  liesBuilder := by kernel_rfl
  t5 := Tryd.underlying5
  a5 := Tryd.isAgg5
  z5 := Tryd.sizeOf5
  v5 := Tryd.zeroValue5
  infoByte := by kernel_rfl
  cellsByte := by kernel_rfl
  sizeByte := by kernel_rfl
  neB5 := by decide }
open Go.RowKit in
theorem Tryd.Builder_String (B b : Nat) (l : List UInt8) (w : World) (h : Lib.IsBuilder 84 5 B b (Lib.byteCells l) w) (h0 : l ≠ []) :
    Calls Tryd.prog 62 #[.pointer (some ⟨b, 0, none⟩)] w fun e w' => e = .returned (.string ⟨l.toArray⟩) ∧ Below B w w' := Any.Builder_String Tryd.lays169 Tryd.Builder_Extra_169 B b l w h h0
open Go.RowKit in
theorem Tryd.Builder_String_empty (B b : Nat) (w : World) (h : Lib.IsBuilder 84 5 B b [] w) (hBw : B ≤ w.heap.size) :
    Calls Tryd.prog 62 #[.pointer (some ⟨b, 0, none⟩)] w fun e w' => e = .returned (.string ⟨#[]⟩) ∧ Below B w w' := Any.Builder_String_empty Tryd.lays169 Tryd.Builder_Extra_169 B b w h hBw
open Go.RowKit in
theorem Tryd.Builder_String_any (B b : Nat) (l : List UInt8) (w : World) (h : Lib.IsBuilder 84 5 B b (Lib.byteCells l) w) (hBw : B ≤ w.heap.size) :
    Calls Tryd.prog 62 #[.pointer (some ⟨b, 0, none⟩)] w fun e w' => e = .returned (.string ⟨l.toArray⟩) ∧ Below B w w' := Any.Builder_String_any Tryd.lays169 Tryd.Builder_Extra_169 B b l w h hBw
def Tryd.lays241_ren : Go.Shelf.Ren := ⟨fun | 241 => 102 | 277 => 116 | n => n, fun | 70 => 81 | 3 => 3 | 0 => 0 | 72 => 84 | 37 => 82 | 5 => 5 | n => n, fun | n => n⟩
theorem Tryd.lays241 : Go.Proofs.Lays.n241 Tryd.prog Tryd.lays241_ren := {
  mixed := by kernel_rfl
  f241 := Tryd.func102.trans (congrArg some (by kernel_rfl))
  f277 := Tryd.func116.trans (congrArg some (by kernel_rfl))
  t0 := Tryd.underlying0
  a0 := Tryd.isAgg0
  z0 := Tryd.sizeOf0
  v0 := Tryd.zeroValue0
  t3 := Tryd.underlying3
  a3 := Tryd.isAgg3
  z3 := Tryd.sizeOf3
  v3 := Tryd.zeroValue3
  t37 := Tryd.underlying82
  a37 := Tryd.isAgg82
  z37 := Tryd.sizeOf82
  v37 := Tryd.zeroValue82
  t70 := Tryd.underlying81
  a70 := Tryd.isAgg81
  z70 := Tryd.sizeOf81
  v70 := Tryd.zeroValue81
  t72 := Tryd.underlying84
  a72 := Tryd.isAgg84
  z72 := Tryd.sizeOf84
  v72 := Tryd.zeroValue84 }
theorem Tryd.Builder_Extra_241 : Builder.Extra Tryd.prog Tryd.lays241_ren := {
  sizeBuilder := by kernel_rfl
  liesBuilder := by kernel_rfl
  t5 := Tryd.underlying5
  a5 := Tryd.isAgg5
  z5 := Tryd.sizeOf5
  v5 := Tryd.zeroValue5
  infoByte := by kernel_rfl
  cellsByte := by kernel_rfl
  sizeByte := by kernel_rfl
  neB5 := by decide }
open Go.RowKit in
theorem Tryd.Builder_grow_fresh (B b n : Nat) (w : World) (hB : B ≤ b) (hbk : w.heap[b]? = some (.cells #[.pointer (some ⟨b, 0, none⟩), .slice none 0 0] 84 (0, 0))) (hBw : B ≤ w.heap.size) (hn : n ≤ 281474976710656) :
    Calls Tryd.prog 102 #[.pointer (some ⟨b, 0, none⟩), .int .i64 n] w fun e w' => e = .returned (.tuple #[]) ∧ (Lib.BuilderAt 84 5 B b (.pointer (some ⟨b, 0, none⟩)) [] w' ∧ Below B w w') := Any.Builder_grow_fresh Tryd.lays241 Tryd.Builder_Extra_241 B b n w hB hbk hBw hn
def Tryd.lays165_ren : Go.Shelf.Ren := ⟨fun | 165 => 78 | 240 => 92 | 241 => 102 | 276 => 109 | 277 => 116 | n => n, fun | 70 => 81 | 3 => 3 | 0 => 0 | 4 => 4 | 9 => 9 | 20 => 20 | 72 => 84 | 37 => 82 | 164 => 136 | 5 => 5 | n => n, fun | n => n⟩
theorem Tryd.lays165 : Go.Proofs.Lays.n165 Tryd.prog Tryd.lays165_ren := {
  mixed := by kernel_rfl
  f165 := Tryd.func78.trans (congrArg some (by kernel_rfl))
  f240 := Tryd.func92.trans (congrArg some (by kernel_rfl))
  f241 := Tryd.func102.trans (congrArg some (by kernel_rfl))
  f276 := Tryd.func109.trans (congrArg some (by kernel_rfl))
  f277 := Tryd.func116.trans (congrArg some (by kernel_rfl))
  t0 := Tryd.underlying0
  a0 := Tryd.isAgg0
  z0 := Tryd.sizeOf0
  v0 := Tryd.zeroValue0
  t3 := Tryd.underlying3
  a3 := Tryd.isAgg3
  z3 := Tryd.sizeOf3
  v3 := Tryd.zeroValue3
  t4 := Tryd.underlying4
  a4 := Tryd.isAgg4
  z4 := Tryd.sizeOf4
  v4 := Tryd.zeroValue4
  t9 := Tryd.underlying9
  a9 := Tryd.isAgg9
  z9 := Tryd.sizeOf9
  v9 := Tryd.zeroValue9
  t20 := Tryd.underlying20
  a20 := Tryd.isAgg20
  z20 := Tryd.sizeOf20
  v20 := Tryd.zeroValue20
  t37 := Tryd.underlying82
  a37 := Tryd.isAgg82
  z37 := Tryd.sizeOf82
  v37 := Tryd.zeroValue82
  t70 := Tryd.underlying81
  a70 := Tryd.isAgg81
  z70 := Tryd.sizeOf81
  v70 := Tryd.zeroValue81
  t72 := Tryd.underlying84
  a72 := Tryd.isAgg84
  z72 := Tryd.sizeOf84
  v72 := Tryd.zeroValue84
  t164 := Tryd.underlying136
  a164 := Tryd.isAgg136
  z164 := Tryd.sizeOf136
  v164 := Tryd.zeroValue136 }
theorem Tryd.Builder_Extra_165 : Builder.Extra Tryd.prog Tryd.lays165_ren := {
  sizeBuilder := by kernel_rfl
  liesBuilder := by kernel_rfl
  t5 := Tryd.underlying5
  a5 := Tryd.isAgg5
  z5 := Tryd.sizeOf5
  v5 := Tryd.zeroValue5
  infoByte := by kernel_rfl
  cellsByte := by kernel_rfl
  sizeByte := by kernel_rfl
  neB5 := by decide }
open Go.RowKit in
theorem Tryd.Builder_Grow_fresh (B b n : Nat) (w : World) (hB : B ≤ b) (hbk : w.heap[b]? = some (.cells #[.pointer none, .slice none 0 0] 84 (0, 0))) (hBw : B ≤ w.heap.size) (hn : n ≤ 281474976710656) :
    Calls Tryd.prog 78 #[.pointer (some ⟨b, 0, none⟩), .int .i64 n] w fun e w' => e = .returned (.tuple #[]) ∧ (Lib.BuilderAt 84 5 B b (.pointer (some ⟨b, 0, none⟩)) [] w' ∧ Below B w w') := Any.Builder_Grow_fresh Tryd.lays165 Tryd.Builder_Extra_165 B b n w hB hbk hBw hn
def Tryd.lays156_ren : Go.Shelf.Ren := ⟨fun | 156 => 39 | 165 => 78 | 166 => 61 | 169 => 62 | 240 => 92 | 241 => 102 | 276 => 109 | 277 => 116 | n => n, fun | 31 => 38 | 9 => 9 | 3 => 3 | 4 => 4 | 0 => 0 | 20 => 20 | 72 => 84 | 76 => 87 | 70 => 81 | 37 => 82 | 75 => 86 | 127 => 115 | 164 => 136 | 5 => 5 | 80 => 89 | n => n, fun | n => n⟩
theorem Tryd.lays156 : Go.Proofs.Lays.n156 Tryd.prog Tryd.lays156_ren := {
  mixed := by kernel_rfl
  f156 := Tryd.func39.trans (congrArg some (by kernel_rfl))
  f165 := Tryd.func78.trans (congrArg some (by kernel_rfl))
  f166 := Tryd.func61.trans (congrArg some (by kernel_rfl))
  f169 := Tryd.func62.trans (congrArg some (by kernel_rfl))
  f240 := Tryd.func92.trans (congrArg some (by kernel_rfl))
  f241 := Tryd.func102.trans (congrArg some (by kernel_rfl))
  f276 := Tryd.func109.trans (congrArg some (by kernel_rfl))
  f277 := Tryd.func116.trans (congrArg some (by kernel_rfl))
  t0 := Tryd.underlying0
  a0 := Tryd.isAgg0
  z0 := Tryd.sizeOf0
  v0 := Tryd.zeroValue0
  t3 := Tryd.underlying3
  a3 := Tryd.isAgg3
  z3 := Tryd.sizeOf3
  v3 := Tryd.zeroValue3
  t4 := Tryd.underlying4
  a4 := Tryd.isAgg4
  z4 := Tryd.sizeOf4
  v4 := Tryd.zeroValue4
  t9 := Tryd.underlying9
  a9 := Tryd.isAgg9
  z9 := Tryd.sizeOf9
  v9 := Tryd.zeroValue9
  t20 := Tryd.underlying20
  a20 := Tryd.isAgg20
  z20 := Tryd.sizeOf20
  v20 := Tryd.zeroValue20
  t31 := Tryd.underlying38
  a31 := Tryd.isAgg38
  z31 := Tryd.sizeOf38
  v31 := Tryd.zeroValue38
  t37 := Tryd.underlying82
  a37 := Tryd.isAgg82
  z37 := Tryd.sizeOf82
  v37 := Tryd.zeroValue82
  t70 := Tryd.underlying81
  a70 := Tryd.isAgg81
  z70 := Tryd.sizeOf81
  v70 := Tryd.zeroValue81
  t72 := Tryd.underlying84
  a72 := Tryd.isAgg84
  z72 := Tryd.sizeOf84
  v72 := Tryd.zeroValue84
  t75 := Tryd.underlying86
  a75 := Tryd.isAgg86
  z75 := Tryd.sizeOf86
  v75 := Tryd.zeroValue86
  t76 := Tryd.underlying87
  a76 := Tryd.isAgg87
  z76 := Tryd.sizeOf87
  v76 := Tryd.zeroValue87
  t127 := Tryd.underlying115
  a127 := Tryd.isAgg115
  z127 := Tryd.sizeOf115
  v127 := Tryd.zeroValue115
  t164 := Tryd.underlying136
  a164 := Tryd.isAgg136
  z164 := Tryd.sizeOf136
  v164 := Tryd.zeroValue136 }
theorem Tryd.Builder_Extra_156 : Builder.Extra Tryd.prog Tryd.lays156_ren := {
  sizeBuilder := by kernel_rfl
  liesBuilder := by kernel_rfl
  t5 := Tryd.underlying5
  a5 := Tryd.isAgg5
  z5 := Tryd.sizeOf5
  v5 := Tryd.zeroValue5
  infoByte := by kernel_rfl
  cellsByte := by kernel_rfl
  sizeByte := by kernel_rfl
  neB5 := by decide }
open Go.RowKit in
theorem Tryd.strings_Join_none (a : Option Addr) (c : Nat) (sep : ByteArray) (w : World) :
    Calls Tryd.prog 39 #[.slice a 0 c, .string sep] w fun e w' => e = .returned (.string ⟨#[]⟩) ∧ w' = w := Any.strings_Join_none Tryd.lays156 Tryd.Builder_Extra_156 a c sep w
open Go.RowKit in
theorem Tryd.strings_Join (bk o c : Nat) (xs : List ByteArray) (sep : ByteArray) (w : World) (hcells : ∀ (j : Nat) x, xs[j]? = some x → w.cell? ⟨bk, o + j, none⟩ = some (.string x)) (hbk : bk < w.heap.size) (hN : xs.length ≤ 140737488355328) (hcap : xs.length ≤ c) (hlen : (Lib.join (xs.map (·.data.toList)) sep.data.toList).length ≤ 140737488355328) :
    Calls Tryd.prog 39 #[.slice (some ⟨bk, o, none⟩) xs.length c, .string sep] w fun e w' => e = .returned (.string ⟨(Lib.join (xs.map (·.data.toList)) sep.data.toList).toArray⟩) ∧ Below w.heap.size w w' := Any.strings_Join Tryd.lays156 Tryd.Builder_Extra_156 bk o c xs sep w hcells hbk hN hcap hlen
def Tryd.lays137_ren : Go.Shelf.Ren := ⟨fun | 137 => 110 | 217 => 117 | 266 => 128 | n => n, fun | 9 => 9 | 5 => 5 | 3 => 3 | n => n, fun | n => n⟩
theorem Tryd.lays137 : Go.Proofs.Lays.n137 Tryd.prog Tryd.lays137_ren := {
  mixed := by kernel_rfl
  f137 := Tryd.func110.trans (congrArg some (by kernel_rfl))
  f217 := Tryd.func117.trans (congrArg some (by kernel_rfl))
  f266 := Tryd.func128.trans (congrArg some (by kernel_rfl))
  t3 := Tryd.underlying3
  a3 := Tryd.isAgg3
  z3 := Tryd.sizeOf3
  v3 := Tryd.zeroValue3
  t5 := Tryd.underlying5
  a5 := Tryd.isAgg5
  z5 := Tryd.sizeOf5
  v5 := Tryd.zeroValue5
  t9 := Tryd.underlying9
  a9 := Tryd.isAgg9
  z9 := Tryd.sizeOf9
  v9 := Tryd.zeroValue9 }
open Go.RowKit in
theorem Tryd.strings_IndexByte (s : ByteArray) (c : Int) (w : World) :
    Calls Tryd.prog 110 #[.string s, .int .u8 c] w fun e w' => e = .returned (.int .i64 (Lib.indexByte s.data.toList c.toNat.toUInt8)) ∧ w' = w := Any.strings_IndexByte Tryd.lays137 s c w
open Go.RowKit in
theorem Tryd.Builder_Len_f (B b : Nat) (bs : List Value) (w : World) (h : Lib.IsBuilderF 84 5 B b bs w) :
    Calls Tryd.prog 80 #[.pointer (some ⟨b, 0, none⟩)] w fun e w' => e = .returned (.int .i64 bs.length) ∧ w' = w := Any.Builder_Len_f Tryd.lays170 B b bs w h
open Go.RowKit in
theorem Tryd.Builder_String_f (B b : Nat) (l : List UInt8) (w : World) (h : Lib.IsBuilderF 84 5 B b (Lib.byteCells l) w) (h0 : l ≠ []) :
    Calls Tryd.prog 62 #[.pointer (some ⟨b, 0, none⟩)] w fun e w' => e = .returned (.string ⟨l.toArray⟩) ∧ (Lib.IsBuilderF 84 5 B b (Lib.byteCells l) w' ∧ Below B w w') := Any.Builder_String_f Tryd.lays169 Tryd.Builder_Extra_169 B b l w h h0
open Go.RowKit in
theorem Tryd.Builder_String_empty_f (B b : Nat) (w : World) (h : Lib.IsBuilderF 84 5 B b [] w) (hBw : B ≤ w.heap.size) :
    Calls Tryd.prog 62 #[.pointer (some ⟨b, 0, none⟩)] w fun e w' => e = .returned (.string ⟨#[]⟩) ∧ (Lib.IsBuilderF 84 5 B b [] w' ∧ Below B w w') := Any.Builder_String_empty_f Tryd.lays169 Tryd.Builder_Extra_169 B b w h hBw
open Go.RowKit in
theorem Tryd.Builder_String_any_f (B b : Nat) (l : List UInt8) (w : World) (h : Lib.IsBuilderF 84 5 B b (Lib.byteCells l) w) (hBw : B ≤ w.heap.size) :
    Calls Tryd.prog 62 #[.pointer (some ⟨b, 0, none⟩)] w fun e w' => e = .returned (.string ⟨l.toArray⟩) ∧ (Lib.IsBuilderF 84 5 B b (Lib.byteCells l) w' ∧ Below B w w') := Any.Builder_String_any_f Tryd.lays169 Tryd.Builder_Extra_169 B b l w h hBw
open Go.RowKit in
theorem Tryd.Builder_String_k (B b : Nat) (l : List UInt8) (w : World) (h : Lib.IsBuilderF 84 5 B b (Lib.byteCells l) w) (h0 : l ≠ []) :
    Calls Tryd.prog 62 #[.pointer (some ⟨b, 0, none⟩)] w fun e w' => e = .returned (.string ⟨l.toArray⟩) ∧ (Lib.IsBuilderF 84 5 B b (Lib.byteCells l) w' ∧ Below B w w' ∧ Lib.OthersKept 5 (some b) w w') := Any.Builder_String_k Tryd.lays169 Tryd.Builder_Extra_169 B b l w h h0
open Go.RowKit in
theorem Tryd.Builder_String_empty_k (B b : Nat) (w : World) (h : Lib.IsBuilderF 84 5 B b [] w) (hBw : B ≤ w.heap.size) :
    Calls Tryd.prog 62 #[.pointer (some ⟨b, 0, none⟩)] w fun e w' => e = .returned (.string ⟨#[]⟩) ∧ (Lib.IsBuilderF 84 5 B b [] w' ∧ Below B w w' ∧ Lib.OthersKept 5 (some b) w w') := Any.Builder_String_empty_k Tryd.lays169 Tryd.Builder_Extra_169 B b w h hBw
open Go.RowKit in
theorem Tryd.Builder_String_any_k (B b : Nat) (l : List UInt8) (w : World) (h : Lib.IsBuilderF 84 5 B b (Lib.byteCells l) w) (hBw : B ≤ w.heap.size) :
    Calls Tryd.prog 62 #[.pointer (some ⟨b, 0, none⟩)] w fun e w' => e = .returned (.string ⟨l.toArray⟩) ∧ (Lib.IsBuilderF 84 5 B b (Lib.byteCells l) w' ∧ Below B w w' ∧ Lib.OthersKept 5 (some b) w w') := Any.Builder_String_any_k Tryd.lays169 Tryd.Builder_Extra_169 B b l w h hBw
def Tryd.lays195_ren : Go.Shelf.Ren := ⟨fun | 195 => 82 | n => n, fun | 9 => 9 | 3 => 3 | 0 => 0 | 4 => 4 | n => n, fun | n => n⟩
theorem Tryd.lays195 : Go.Proofs.Lays.n195 Tryd.prog Tryd.lays195_ren := {
  mixed := by kernel_rfl
  f195 := Tryd.func82.trans (congrArg some (by kernel_rfl))
  t0 := Tryd.underlying0
  a0 := Tryd.isAgg0
  z0 := Tryd.sizeOf0
  v0 := Tryd.zeroValue0
  t3 := Tryd.underlying3
  a3 := Tryd.isAgg3
  z3 := Tryd.sizeOf3
  v3 := Tryd.zeroValue3
  t4 := Tryd.underlying4
  a4 := Tryd.isAgg4
  z4 := Tryd.sizeOf4
  v4 := Tryd.zeroValue4
  t9 := Tryd.underlying9
  a9 := Tryd.isAgg9
  z9 := Tryd.sizeOf9
  v9 := Tryd.zeroValue9 }
open Go.RowKit in
theorem Tryd.utf8_RuneCountInString (s : ByteArray) (w : World) (hs : s.size < 9223372036854775807) :
    Calls Tryd.prog 82 #[.string s] w fun e w' => e = .returned (.int .i64 (Lib.runeCount s)) ∧ ∃ pos, w' = w.iter s pos := Any.utf8_RuneCountInString Tryd.lays195 s w hs
open Go.RowKit in
theorem Tryd.Builder_grow_fresh_cap (B b n : Nat) (w : World) (hB : B ≤ b) (hbk : w.heap[b]? = some (.cells #[.pointer (some ⟨b, 0, none⟩), .slice none 0 0] 84 (0, 0))) (hBw : B ≤ w.heap.size) (hn : n ≤ 281474976710656) :
    Calls Tryd.prog 102 #[.pointer (some ⟨b, 0, none⟩), .int .i64 n] w fun e w' => e = .returned (.tuple #[]) ∧ (Lib.BuilderAt 84 5 B b (.pointer (some ⟨b, 0, none⟩)) [] w' ∧ Below B w w') ∧ ∃ p cap, w'.cell? ⟨b, 1, none⟩ = some (.slice p 0 cap) ∧ n ≤ cap := Any.Builder_grow_fresh_cap Tryd.lays241 Tryd.Builder_Extra_241 B b n w hB hbk hBw hn
open Go.RowKit in
theorem Tryd.Builder_Grow_fresh_cap (B b n : Nat) (w : World) (hB : B ≤ b) (hbk : w.heap[b]? = some (.cells #[.pointer none, .slice none 0 0] 84 (0, 0))) (hBw : B ≤ w.heap.size) (hn : n ≤ 281474976710656) :
    Calls Tryd.prog 78 #[.pointer (some ⟨b, 0, none⟩), .int .i64 n] w fun e w' => e = .returned (.tuple #[]) ∧ (Lib.BuilderAt 84 5 B b (.pointer (some ⟨b, 0, none⟩)) [] w' ∧ Below B w w') ∧ ∃ p cap, w'.cell? ⟨b, 1, none⟩ = some (.slice p 0 cap) ∧ n ≤ cap := Any.Builder_Grow_fresh_cap Tryd.lays165 Tryd.Builder_Extra_165 B b n w hB hbk hBw hn
def Tryd.lays129_ren : Go.Shelf.Ren := ⟨fun | 129 => 142 | n => n, fun | 53 => 130 | 3 => 3 | 4 => 4 | 46 => 104 | 5 => 5 | 9 => 9 | n => n, fun | n => n⟩
theorem Tryd.lays129 : Go.Proofs.Lays.n129 Tryd.prog Tryd.lays129_ren := {
  mixed := by kernel_rfl
  f129 := Tryd.func142.trans (congrArg some (by kernel_rfl))
  t3 := Tryd.underlying3
  a3 := Tryd.isAgg3
  z3 := Tryd.sizeOf3
  v3 := Tryd.zeroValue3
  t4 := Tryd.underlying4
  a4 := Tryd.isAgg4
  z4 := Tryd.sizeOf4
  v4 := Tryd.zeroValue4
  t5 := Tryd.underlying5
  a5 := Tryd.isAgg5
  z5 := Tryd.sizeOf5
  v5 := Tryd.zeroValue5
  t9 := Tryd.underlying9
  a9 := Tryd.isAgg9
  z9 := Tryd.sizeOf9
  v9 := Tryd.zeroValue9
  t46 := Tryd.underlying104
  a46 := Tryd.isAgg104
  z46 := Tryd.sizeOf104
  v46 := Tryd.zeroValue104
  t53 := Tryd.underlying130
  a53 := Tryd.isAgg130
  z53 := Tryd.sizeOf130
  v53 := Tryd.zeroValue130 }
theorem Tryd.bits_Len64 (x : Int) (w : World) (h0 : 0 ≤ x) (h1 : x ≤ 18446744073709551615) :
    Calls Tryd.prog 142 #[.int .u64 x] w fun e w' => e = .returned (.int .i64 (Lib.bitLen x.toNat)) ∧ w' = w := Any.bits_Len64 Tryd.lays129 x w h0 h1
def Tryd.lays317_ren : Go.Shelf.Ren := ⟨fun | 317 => 141 | n => n, fun | 3 => 3 | 46 => 104 | n => n, fun | n => n⟩
theorem Tryd.lays317 : Go.Proofs.Lays.n317 Tryd.prog Tryd.lays317_ren := {
  mixed := by kernel_rfl
  f317 := Tryd.func141.trans (congrArg some (by kernel_rfl))
  t3 := Tryd.underlying3
  a3 := Tryd.isAgg3
  z3 := Tryd.sizeOf3
  v3 := Tryd.zeroValue3
  t46 := Tryd.underlying104
  a46 := Tryd.isAgg104
  z46 := Tryd.sizeOf104
  v46 := Tryd.zeroValue104 }
open Go.Lib in
theorem Tryd.internal_strconv_log10Pow2 (x : Nat) (h : x ≤ 64) (w : World) :
    Calls Tryd.prog 141 #[.int .i64 x] w fun e w' => e = .returned (.int .i64 (Lib.l10 x)) ∧ w' = w := Any.internal_strconv_log10Pow2 Tryd.lays317 x h w
def Tryd.lays318_ren : Go.Shelf.Ren := ⟨fun | 318 => 143 | n => n, fun | 3 => 3 | 4 => 4 | n => n, fun | n => n⟩
theorem Tryd.lays318 : Go.Proofs.Lays.n318 Tryd.prog Tryd.lays318_ren := {
  mixed := by kernel_rfl
  f318 := Tryd.func143.trans (congrArg some (by kernel_rfl))
  t3 := Tryd.underlying3
  a3 := Tryd.isAgg3
  z3 := Tryd.sizeOf3
  v3 := Tryd.zeroValue3
  t4 := Tryd.underlying4
  a4 := Tryd.isAgg4
  z4 := Tryd.sizeOf4
  v4 := Tryd.zeroValue4 }
open Go.Lib in
theorem Tryd.internal_strconv_bool2_int (b : Bool) (w : World) :
    Calls Tryd.prog 143 #[.bool b] w fun e w' => e = .returned (.int .i64 (if b then 1 else 0)) ∧ w' = w := Any.internal_strconv_bool2_int Tryd.lays318 b w
def Tryd.lays283_ren : Go.Shelf.Ren := ⟨fun | 283 => 137 | n => n, fun | 3 => 3 | 9 => 9 | 4 => 4 | n => n, fun | n => n⟩
theorem Tryd.lays283 : Go.Proofs.Lays.n283 Tryd.prog Tryd.lays283_ren := {
  mixed := by kernel_rfl
  f283 := Tryd.func137.trans (congrArg some (by kernel_rfl))
  t3 := Tryd.underlying3
  a3 := Tryd.isAgg3
  z3 := Tryd.sizeOf3
  v3 := Tryd.zeroValue3
  t4 := Tryd.underlying4
  a4 := Tryd.isAgg4
  z4 := Tryd.sizeOf4
  v4 := Tryd.zeroValue4
  t9 := Tryd.underlying9
  a9 := Tryd.isAgg9
  z9 := Tryd.sizeOf9
  v9 := Tryd.zeroValue9 }
open Go.Lib in
theorem Tryd.internal_strconv_small (i : Nat) (h : i < 100) (w : World) :
    Calls Tryd.prog 137 #[.int .i64 i] w fun e w' => e = .returned (.string ⟨(Lib.decDigits i).toArray⟩) ∧ w' = w := Any.internal_strconv_small Tryd.lays283 i h w
def Tryd.laysM284_ren : Go.Shelf.Ren := ⟨fun | 284 => 138 | 129 => 142 | 317 => 141 | 318 => 143 | n => n, fun | 53 => 130 | 3 => 3 | 212 => 159 | 0 => 0 | 4 => 4 | 46 => 104 | 5 => 5 | 9 => 9 | n => n, fun | 17 => 4 | n => n⟩
theorem Tryd.laysM284 : Go.Proofs.LaysM.n284 Tryd.prog Tryd.laysM284_ren := {
  mixed := by kernel_rfl
  f129 := Tryd.func142.trans (congrArg some (by kernel_rfl))
  f284 := Tryd.func138.trans (congrArg some (by kernel_rfl))
  f317 := Tryd.func141.trans (congrArg some (by kernel_rfl))
  f318 := Tryd.func143.trans (congrArg some (by kernel_rfl))
  t0 := Tryd.underlying0
  a0 := Tryd.isAgg0
  z0 := Tryd.sizeOf0
  v0 := Tryd.zeroValue0
  t3 := Tryd.underlying3
  a3 := Tryd.isAgg3
  z3 := Tryd.sizeOf3
  v3 := Tryd.zeroValue3
  t4 := Tryd.underlying4
  a4 := Tryd.isAgg4
  z4 := Tryd.sizeOf4
  v4 := Tryd.zeroValue4
  t5 := Tryd.underlying5
  a5 := Tryd.isAgg5
  z5 := Tryd.sizeOf5
  v5 := Tryd.zeroValue5
  t9 := Tryd.underlying9
  a9 := Tryd.isAgg9
  z9 := Tryd.sizeOf9
  v9 := Tryd.zeroValue9
  t46 := Tryd.underlying104
  a46 := Tryd.isAgg104
  z46 := Tryd.sizeOf104
  v46 := Tryd.zeroValue104
  t53 := Tryd.underlying130
  a53 := Tryd.isAgg130
  z53 := Tryd.sizeOf130
  v53 := Tryd.zeroValue130
  t212 := Tryd.underlying159
  a212 := Tryd.isAgg159
  z212 := Tryd.sizeOf159
  v212 := Tryd.zeroValue159
  g17 := by kernel_rfl
  i0 := by kernel_rfl
  i3 := by kernel_rfl
  i4 := by kernel_rfl
  i5 := by kernel_rfl
  i9 := by kernel_rfl
  i46 := by kernel_rfl
  i53 := by kernel_rfl
  i212 := by kernel_rfl
  m17 := by kernel_rfl }
open Go.Lib in
theorem Tryd.internal_strconv_numDigits (u : Nat) (h1 : 1 ≤ u) (h2 : u < 18446744073709551616) (w : World) (htab : Lib.TabIs Tryd.prog w "internal/strconv.uint64pow10" .u64 Lib.pow10Tab) :
    Calls Tryd.prog 138 #[.int .u64 u] w fun e w' => e = .returned (.int .i64 (Lib.nDigits u)) ∧ w' = w := Any.internal_strconv_numDigits Tryd.laysM284 u h1 h2 w htab
def Tryd.lays285_ren : Go.Shelf.Ren := ⟨fun | 285 => 139 | n => n, fun | 37 => 82 | 53 => 130 | 3 => 3 | 4 => 4 | 51 => 127 | 9 => 9 | 5 => 5 | 0 => 0 | n => n, fun | n => n⟩
theorem Tryd.lays285 : Go.Proofs.Lays.n285 Tryd.prog Tryd.lays285_ren := {
  mixed := by kernel_rfl
  f285 := Tryd.func139.trans (congrArg some (by kernel_rfl))
  t0 := Tryd.underlying0
  a0 := Tryd.isAgg0
  z0 := Tryd.sizeOf0
  v0 := Tryd.zeroValue0
  t3 := Tryd.underlying3
  a3 := Tryd.isAgg3
  z3 := Tryd.sizeOf3
  v3 := Tryd.zeroValue3
  t4 := Tryd.underlying4
  a4 := Tryd.isAgg4
  z4 := Tryd.sizeOf4
  v4 := Tryd.zeroValue4
  t5 := Tryd.underlying5
  a5 := Tryd.isAgg5
  z5 := Tryd.sizeOf5
  v5 := Tryd.zeroValue5
  t9 := Tryd.underlying9
  a9 := Tryd.isAgg9
  z9 := Tryd.sizeOf9
  v9 := Tryd.zeroValue9
  t37 := Tryd.underlying82
  a37 := Tryd.isAgg82
  z37 := Tryd.sizeOf82
  v37 := Tryd.zeroValue82
  t51 := Tryd.underlying127
  a51 := Tryd.isAgg127
  z51 := Tryd.sizeOf127
  v51 := Tryd.zeroValue127
  t53 := Tryd.underlying130
  a53 := Tryd.isAgg130
  z53 := Tryd.sizeOf130
  v53 := Tryd.zeroValue130 }
open Go.RowKit Go.Sort Go.Lib in
theorem Tryd.internal_strconv_formatBase10 (blk off cap : Nat) (u : Nat) (d : Array UInt8) (w : World) (hH : Holds (fun (b : UInt8) => Value.int .u8 (b.toNat : Int)) w blk off d) (hu : u < 10 ^ d.size) (hu64 : u < 18446744073709551616) (hsz : d.size < 4611686018427387904) :
    Calls Tryd.prog 139 #[.slice (some ⟨blk, off, none⟩) d.size cap, .int .u64 u] w fun e w' =>
      e = .returned (.tuple #[]) ∧ ∃ (n v' : Nat) (dk : Array UInt8), w' = (putRow (fun (b : UInt8) => Value.int .u8 (b.toNat : Int)) w blk off dk).drewN n ∧ FmtInv d.size u 0 v' dk := Any.internal_strconv_formatBase10 Tryd.lays285 blk off cap u d w hH hu hu64 hsz
def Tryd.laysM246_ren : Go.Shelf.Ren := ⟨fun | 246 => 133 | 283 => 137 | 284 => 138 | 285 => 139 | 286 => 140 | 129 => 142 | 317 => 141 | 318 => 143 | 319 => 144 | 320 => 145 | 337 => 146 | 338 => 147 | n => n, fun | 2 => 2 | 3 => 3 | 9 => 9 | 4 => 4 | 171 => 153 | 0 => 0 | 53 => 130 | 37 => 82 | 5 => 5 | 173 => 156 | 212 => 159 | 51 => 127 | 20 => 20 | 213 => 160 | 46 => 104 | 232 => 163 | 233 => 164 | n => n, fun | 17 => 4 | 18 => 5 | 19 => 6 | n => n⟩
theorem Tryd.laysM246 : Go.Proofs.LaysM.n246 Tryd.prog Tryd.laysM246_ren := {
  mixed := by kernel_rfl
  f129 := Tryd.func142.trans (congrArg some (by kernel_rfl))
  f246 := Tryd.func133.trans (congrArg some (by kernel_rfl))
  f283 := Tryd.func137.trans (congrArg some (by kernel_rfl))
  f284 := Tryd.func138.trans (congrArg some (by kernel_rfl))
  f285 := Tryd.func139.trans (congrArg some (by kernel_rfl))
  f286 := Tryd.func140.trans (congrArg some (by kernel_rfl))
  f317 := Tryd.func141.trans (congrArg some (by kernel_rfl))
  f318 := Tryd.func143.trans (congrArg some (by kernel_rfl))
  f319 := Tryd.func144.trans (congrArg some (by kernel_rfl))
  f320 := Tryd.func145.trans (congrArg some (by kernel_rfl))
  f337 := Tryd.func146.trans (congrArg some (by kernel_rfl))
  f338 := Tryd.func147.trans (congrArg some (by kernel_rfl))
  t0 := Tryd.underlying0
  a0 := Tryd.isAgg0
  z0 := Tryd.sizeOf0
  v0 := Tryd.zeroValue0
  t2 := Tryd.underlying2
  a2 := Tryd.isAgg2
  z2 := Tryd.sizeOf2
  v2 := Tryd.zeroValue2
  t3 := Tryd.underlying3
  a3 := Tryd.isAgg3
  z3 := Tryd.sizeOf3
  v3 := Tryd.zeroValue3
  t4 := Tryd.underlying4
  a4 := Tryd.isAgg4
  z4 := Tryd.sizeOf4
  v4 := Tryd.zeroValue4
  t5 := Tryd.underlying5
  a5 := Tryd.isAgg5
  z5 := Tryd.sizeOf5
  v5 := Tryd.zeroValue5
  t9 := Tryd.underlying9
  a9 := Tryd.isAgg9
  z9 := Tryd.sizeOf9
  v9 := Tryd.zeroValue9
  t20 := Tryd.underlying20
  a20 := Tryd.isAgg20
  z20 := Tryd.sizeOf20
  v20 := Tryd.zeroValue20
  t37 := Tryd.underlying82
  a37 := Tryd.isAgg82
  z37 := Tryd.sizeOf82
  v37 := Tryd.zeroValue82
  t46 := Tryd.underlying104
  a46 := Tryd.isAgg104
  z46 := Tryd.sizeOf104
  v46 := Tryd.zeroValue104
  t51 := Tryd.underlying127
  a51 := Tryd.isAgg127
  z51 := Tryd.sizeOf127
  v51 := Tryd.zeroValue127
  t53 := Tryd.underlying130
  a53 := Tryd.isAgg130
  z53 := Tryd.sizeOf130
  v53 := Tryd.zeroValue130
  t171 := Tryd.underlying153
  a171 := Tryd.isAgg153
  z171 := Tryd.sizeOf153
  v171 := Tryd.zeroValue153
  t173 := Tryd.underlying156
  a173 := Tryd.isAgg156
  z173 := Tryd.sizeOf156
  v173 := Tryd.zeroValue156
  t212 := Tryd.underlying159
  a212 := Tryd.isAgg159
  z212 := Tryd.sizeOf159
  v212 := Tryd.zeroValue159
  t213 := Tryd.underlying160
  a213 := Tryd.isAgg160
  z213 := Tryd.sizeOf160
  t232 := Tryd.underlying163
  a232 := Tryd.isAgg163
  z232 := Tryd.sizeOf163
  v232 := Tryd.zeroValue163
  t233 := Tryd.underlying164
  a233 := Tryd.isAgg164
  z233 := Tryd.sizeOf164
  v233 := Tryd.zeroValue164
  g17 := by kernel_rfl
  g18 := by kernel_rfl
  g19 := by kernel_rfl
  i0 := by kernel_rfl
  i2 := by kernel_rfl
  i3 := by kernel_rfl
  i4 := by kernel_rfl
  i5 := by kernel_rfl
  i9 := by kernel_rfl
  i20 := by kernel_rfl
  i37 := by kernel_rfl
  i46 := by kernel_rfl
  i51 := by kernel_rfl
  i53 := by kernel_rfl
  i171 := by kernel_rfl
  i173 := by kernel_rfl
  i212 := by kernel_rfl
  i232 := by kernel_rfl
  i233 := by kernel_rfl
  m17 := by kernel_rfl
  m18 := by kernel_rfl
  m19 := by kernel_rfl }
open Go.RowKit Go.Sort Go.Lib in
theorem Tryd.internal_strconv_FormatInt_10 (n : Int) (h0 : -9223372036854775808 ≤ n) (h1 : n ≤ 9223372036854775807) (w : World) (htab : Lib.TabIs Tryd.prog w "internal/strconv.uint64pow10" .u64 Lib.pow10Tab) :
    Calls Tryd.prog 133 #[.int .i64 n, .int .i64 10] w fun e w' => e = .returned (.string ⟨(Lib.itoa n).toArray⟩) ∧ ∃ k os, w' = grow (w.drewN k) os := Any.internal_strconv_FormatInt_10 Tryd.laysM246 n h0 h1 w htab
def Tryd.lays246_ren : Go.Shelf.Ren := ⟨fun | 246 => 133 | 283 => 137 | 284 => 138 | 285 => 139 | 286 => 140 | 129 => 142 | 317 => 141 | 318 => 143 | 319 => 144 | 320 => 145 | 337 => 146 | 338 => 147 | n => n, fun | 2 => 2 | 3 => 3 | 9 => 9 | 4 => 4 | 171 => 153 | 0 => 0 | 53 => 130 | 37 => 82 | 5 => 5 | 173 => 156 | 212 => 159 | 51 => 127 | 20 => 20 | 213 => 160 | 46 => 104 | 232 => 163 | 233 => 164 | n => n, fun | 17 => 4 | 18 => 5 | 19 => 6 | n => n⟩
theorem Tryd.lays246 : Go.Proofs.Lays.n246 Tryd.prog Tryd.lays246_ren := {
  mixed := by kernel_rfl
  f129 := Tryd.func142.trans (congrArg some (by kernel_rfl))
  f246 := Tryd.func133.trans (congrArg some (by kernel_rfl))
  f283 := Tryd.func137.trans (congrArg some (by kernel_rfl))
  f284 := Tryd.func138.trans (congrArg some (by kernel_rfl))
  f285 := Tryd.func139.trans (congrArg some (by kernel_rfl))
  f286 := Tryd.func140.trans (congrArg some (by kernel_rfl))
  f317 := Tryd.func141.trans (congrArg some (by kernel_rfl))
  f318 := Tryd.func143.trans (congrArg some (by kernel_rfl))
  f319 := Tryd.func144.trans (congrArg some (by kernel_rfl))
  f320 := Tryd.func145.trans (congrArg some (by kernel_rfl))
  f337 := Tryd.func146.trans (congrArg some (by kernel_rfl))
  f338 := Tryd.func147.trans (congrArg some (by kernel_rfl))
  t0 := Tryd.underlying0
  a0 := Tryd.isAgg0
  z0 := Tryd.sizeOf0
  v0 := Tryd.zeroValue0
  t2 := Tryd.underlying2
  a2 := Tryd.isAgg2
  z2 := Tryd.sizeOf2
  v2 := Tryd.zeroValue2
  t3 := Tryd.underlying3
  a3 := Tryd.isAgg3
  z3 := Tryd.sizeOf3
  v3 := Tryd.zeroValue3
  t4 := Tryd.underlying4
  a4 := Tryd.isAgg4
  z4 := Tryd.sizeOf4
  v4 := Tryd.zeroValue4
  t5 := Tryd.underlying5
  a5 := Tryd.isAgg5
  z5 := Tryd.sizeOf5
  v5 := Tryd.zeroValue5
  t9 := Tryd.underlying9
  a9 := Tryd.isAgg9
  z9 := Tryd.sizeOf9
  v9 := Tryd.zeroValue9
  t20 := Tryd.underlying20
  a20 := Tryd.isAgg20
  z20 := Tryd.sizeOf20
  v20 := Tryd.zeroValue20
  t37 := Tryd.underlying82
  a37 := Tryd.isAgg82
  z37 := Tryd.sizeOf82
  v37 := Tryd.zeroValue82
  t46 := Tryd.underlying104
  a46 := Tryd.isAgg104
  z46 := Tryd.sizeOf104
  v46 := Tryd.zeroValue104
  t51 := Tryd.underlying127
  a51 := Tryd.isAgg127
  z51 := Tryd.sizeOf127
  v51 := Tryd.zeroValue127
  t53 := Tryd.underlying130
  a53 := Tryd.isAgg130
  z53 := Tryd.sizeOf130
  v53 := Tryd.zeroValue130
  t171 := Tryd.underlying153
  a171 := Tryd.isAgg153
  z171 := Tryd.sizeOf153
  v171 := Tryd.zeroValue153
  t173 := Tryd.underlying156
  a173 := Tryd.isAgg156
  z173 := Tryd.sizeOf156
  v173 := Tryd.zeroValue156
  t212 := Tryd.underlying159
  a212 := Tryd.isAgg159
  z212 := Tryd.sizeOf159
  v212 := Tryd.zeroValue159
  t213 := Tryd.underlying160
  a213 := Tryd.isAgg160
  z213 := Tryd.sizeOf160
  t232 := Tryd.underlying163
  a232 := Tryd.isAgg163
  z232 := Tryd.sizeOf163
  v232 := Tryd.zeroValue163
  t233 := Tryd.underlying164
  a233 := Tryd.isAgg164
  z233 := Tryd.sizeOf164
  v233 := Tryd.zeroValue164
  g17 := by kernel_rfl
  g18 := by kernel_rfl
  g19 := by kernel_rfl }
open Go.RowKit Go.Sort Go.Lib in
theorem Tryd.internal_strconv_FormatInt_10_small (i : Nat) (hi : i < 100) (w : World) :
    Calls Tryd.prog 133 #[.int .i64 i, .int .i64 10] w fun e w' => e = .returned (.string ⟨(Lib.decDigits i).toArray⟩) ∧ w' = w := Any.internal_strconv_FormatInt_10_small Tryd.lays246 i hi w
def Tryd.laysM243_ren : Go.Shelf.Ren := ⟨fun | 243 => 127 | 246 => 133 | 283 => 137 | 284 => 138 | 285 => 139 | 286 => 140 | 129 => 142 | 317 => 141 | 318 => 143 | 319 => 144 | 320 => 145 | 337 => 146 | 338 => 147 | n => n, fun | 3 => 3 | 9 => 9 | 2 => 2 | 4 => 4 | 171 => 153 | 0 => 0 | 53 => 130 | 37 => 82 | 5 => 5 | 173 => 156 | 212 => 159 | 51 => 127 | 20 => 20 | 213 => 160 | 46 => 104 | 232 => 163 | 233 => 164 | n => n, fun | 17 => 4 | 18 => 5 | 19 => 6 | n => n⟩
theorem Tryd.laysM243 : Go.Proofs.LaysM.n243 Tryd.prog Tryd.laysM243_ren := {
  mixed := by kernel_rfl
  f129 := Tryd.func142.trans (congrArg some (by kernel_rfl))
  f243 := Tryd.func127.trans (congrArg some (by kernel_rfl))
  f246 := Tryd.func133.trans (congrArg some (by kernel_rfl))
  f283 := Tryd.func137.trans (congrArg some (by kernel_rfl))
  f284 := Tryd.func138.trans (congrArg some (by kernel_rfl))
  f285 := Tryd.func139.trans (congrArg some (by kernel_rfl))
  f286 := Tryd.func140.trans (congrArg some (by kernel_rfl))
  f317 := Tryd.func141.trans (congrArg some (by kernel_rfl))
  f318 := Tryd.func143.trans (congrArg some (by kernel_rfl))
  f319 := Tryd.func144.trans (congrArg some (by kernel_rfl))
  f320 := Tryd.func145.trans (congrArg some (by kernel_rfl))
  f337 := Tryd.func146.trans (congrArg some (by kernel_rfl))
  f338 := Tryd.func147.trans (congrArg some (by kernel_rfl))
  t0 := Tryd.underlying0
  a0 := Tryd.isAgg0
  z0 := Tryd.sizeOf0
  v0 := Tryd.zeroValue0
  t2 := Tryd.underlying2
  a2 := Tryd.isAgg2
  z2 := Tryd.sizeOf2
  v2 := Tryd.zeroValue2
  t3 := Tryd.underlying3
  a3 := Tryd.isAgg3
  z3 := Tryd.sizeOf3
  v3 := Tryd.zeroValue3
  t4 := Tryd.underlying4
  a4 := Tryd.isAgg4
  z4 := Tryd.sizeOf4
  v4 := Tryd.zeroValue4
  t5 := Tryd.underlying5
  a5 := Tryd.isAgg5
  z5 := Tryd.sizeOf5
  v5 := Tryd.zeroValue5
  t9 := Tryd.underlying9
  a9 := Tryd.isAgg9
  z9 := Tryd.sizeOf9
  v9 := Tryd.zeroValue9
  t20 := Tryd.underlying20
  a20 := Tryd.isAgg20
  z20 := Tryd.sizeOf20
  v20 := Tryd.zeroValue20
  t37 := Tryd.underlying82
  a37 := Tryd.isAgg82
  z37 := Tryd.sizeOf82
  v37 := Tryd.zeroValue82
  t46 := Tryd.underlying104
  a46 := Tryd.isAgg104
  z46 := Tryd.sizeOf104
  v46 := Tryd.zeroValue104
  t51 := Tryd.underlying127
  a51 := Tryd.isAgg127
  z51 := Tryd.sizeOf127
  v51 := Tryd.zeroValue127
  t53 := Tryd.underlying130
  a53 := Tryd.isAgg130
  z53 := Tryd.sizeOf130
  v53 := Tryd.zeroValue130
  t171 := Tryd.underlying153
  a171 := Tryd.isAgg153
  z171 := Tryd.sizeOf153
  v171 := Tryd.zeroValue153
  t173 := Tryd.underlying156
  a173 := Tryd.isAgg156
  z173 := Tryd.sizeOf156
  v173 := Tryd.zeroValue156
  t212 := Tryd.underlying159
  a212 := Tryd.isAgg159
  z212 := Tryd.sizeOf159
  v212 := Tryd.zeroValue159
  t213 := Tryd.underlying160
  a213 := Tryd.isAgg160
  z213 := Tryd.sizeOf160
  t232 := Tryd.underlying163
  a232 := Tryd.isAgg163
  z232 := Tryd.sizeOf163
  v232 := Tryd.zeroValue163
  t233 := Tryd.underlying164
  a233 := Tryd.isAgg164
  z233 := Tryd.sizeOf164
  v233 := Tryd.zeroValue164
  g17 := by kernel_rfl
  g18 := by kernel_rfl
  g19 := by kernel_rfl
  i0 := by kernel_rfl
  i2 := by kernel_rfl
  i3 := by kernel_rfl
  i4 := by kernel_rfl
  i5 := by kernel_rfl
  i9 := by kernel_rfl
  i20 := by kernel_rfl
  i37 := by kernel_rfl
  i46 := by kernel_rfl
  i51 := by kernel_rfl
  i53 := by kernel_rfl
  i171 := by kernel_rfl
  i173 := by kernel_rfl
  i212 := by kernel_rfl
  i232 := by kernel_rfl
  i233 := by kernel_rfl
  m17 := by kernel_rfl
  m18 := by kernel_rfl
  m19 := by kernel_rfl }
open Go.RowKit Go.Sort Go.Lib in
theorem Tryd.internal_strconv_Itoa (n : Int) (h0 : -9223372036854775808 ≤ n) (h1 : n ≤ 9223372036854775807) (w : World) (htab : Lib.TabIs Tryd.prog w "internal/strconv.uint64pow10" .u64 Lib.pow10Tab) :
    Calls Tryd.prog 127 #[.int .i64 n] w fun e w' => e = .returned (.string ⟨(Lib.itoa n).toArray⟩) ∧ ∃ k os, w' = grow (w.drewN k) os := Any.internal_strconv_Itoa Tryd.laysM243 n h0 h1 w htab
def Tryd.lays243_ren : Go.Shelf.Ren := ⟨fun | 243 => 127 | 246 => 133 | 283 => 137 | 284 => 138 | 285 => 139 | 286 => 140 | 129 => 142 | 317 => 141 | 318 => 143 | 319 => 144 | 320 => 145 | 337 => 146 | 338 => 147 | n => n, fun | 3 => 3 | 9 => 9 | 2 => 2 | 4 => 4 | 171 => 153 | 0 => 0 | 53 => 130 | 37 => 82 | 5 => 5 | 173 => 156 | 212 => 159 | 51 => 127 | 20 => 20 | 213 => 160 | 46 => 104 | 232 => 163 | 233 => 164 | n => n, fun | 17 => 4 | 18 => 5 | 19 => 6 | n => n⟩
theorem Tryd.lays243 : Go.Proofs.Lays.n243 Tryd.prog Tryd.lays243_ren := {
  mixed := by kernel_rfl
  f129 := Tryd.func142.trans (congrArg some (by kernel_rfl))
  f243 := Tryd.func127.trans (congrArg some (by kernel_rfl))
  f246 := Tryd.func133.trans (congrArg some (by kernel_rfl))
  f283 := Tryd.func137.trans (congrArg some (by kernel_rfl))
  f284 := Tryd.func138.trans (congrArg some (by kernel_rfl))
  f285 := Tryd.func139.trans (congrArg some (by kernel_rfl))
  f286 := Tryd.func140.trans (congrArg some (by kernel_rfl))
  f317 := Tryd.func141.trans (congrArg some (by kernel_rfl))
  f318 := Tryd.func143.trans (congrArg some (by kernel_rfl))
  f319 := Tryd.func144.trans (congrArg some (by kernel_rfl))
  f320 := Tryd.func145.trans (congrArg some (by kernel_rfl))
  f337 := Tryd.func146.trans (congrArg some (by kernel_rfl))
  f338 := Tryd.func147.trans (congrArg some (by kernel_rfl))
  t0 := Tryd.underlying0
  a0 := Tryd.isAgg0
  z0 := Tryd.sizeOf0
  v0 := Tryd.zeroValue0
  t2 := Tryd.underlying2
  a2 := Tryd.isAgg2
  z2 := Tryd.sizeOf2
  v2 := Tryd.zeroValue2
  t3 := Tryd.underlying3
  a3 := Tryd.isAgg3
  z3 := Tryd.sizeOf3
  v3 := Tryd.zeroValue3
  t4 := Tryd.underlying4
  a4 := Tryd.isAgg4
  z4 := Tryd.sizeOf4
  v4 := Tryd.zeroValue4
  t5 := Tryd.underlying5
  a5 := Tryd.isAgg5
  z5 := Tryd.sizeOf5
  v5 := Tryd.zeroValue5
  t9 := Tryd.underlying9
  a9 := Tryd.isAgg9
  z9 := Tryd.sizeOf9
  v9 := Tryd.zeroValue9
  t20 := Tryd.underlying20
  a20 := Tryd.isAgg20
  z20 := Tryd.sizeOf20
  v20 := Tryd.zeroValue20
  t37 := Tryd.underlying82
  a37 := Tryd.isAgg82
  z37 := Tryd.sizeOf82
  v37 := Tryd.zeroValue82
  t46 := Tryd.underlying104
  a46 := Tryd.isAgg104
  z46 := Tryd.sizeOf104
  v46 := Tryd.zeroValue104
  t51 := Tryd.underlying127
  a51 := Tryd.isAgg127
  z51 := Tryd.sizeOf127
  v51 := Tryd.zeroValue127
  t53 := Tryd.underlying130
  a53 := Tryd.isAgg130
  z53 := Tryd.sizeOf130
  v53 := Tryd.zeroValue130
  t171 := Tryd.underlying153
  a171 := Tryd.isAgg153
  z171 := Tryd.sizeOf153
  v171 := Tryd.zeroValue153
  t173 := Tryd.underlying156
  a173 := Tryd.isAgg156
  z173 := Tryd.sizeOf156
  v173 := Tryd.zeroValue156
  t212 := Tryd.underlying159
  a212 := Tryd.isAgg159
  z212 := Tryd.sizeOf159
  v212 := Tryd.zeroValue159
  t213 := Tryd.underlying160
  a213 := Tryd.isAgg160
  z213 := Tryd.sizeOf160
  t232 := Tryd.underlying163
  a232 := Tryd.isAgg163
  z232 := Tryd.sizeOf163
  v232 := Tryd.zeroValue163
  t233 := Tryd.underlying164
  a233 := Tryd.isAgg164
  z233 := Tryd.sizeOf164
  v233 := Tryd.zeroValue164
  g17 := by kernel_rfl
  g18 := by kernel_rfl
  g19 := by kernel_rfl }
open Go.RowKit Go.Sort Go.Lib in
theorem Tryd.internal_strconv_Itoa_small (i : Nat) (hi : i < 100) (w : World) :
    Calls Tryd.prog 127 #[.int .i64 i] w fun e w' => e = .returned (.string ⟨(Lib.decDigits i).toArray⟩) ∧ w' = w := Any.internal_strconv_Itoa_small Tryd.lays243 i hi w
def Tryd.laysM171_ren : Go.Shelf.Ren := ⟨fun | 171 => 115 | 243 => 127 | 246 => 133 | 283 => 137 | 284 => 138 | 285 => 139 | 286 => 140 | 129 => 142 | 317 => 141 | 318 => 143 | 319 => 144 | 320 => 145 | 337 => 146 | 338 => 147 | n => n, fun | 3 => 3 | 9 => 9 | 2 => 2 | 4 => 4 | 171 => 153 | 0 => 0 | 53 => 130 | 37 => 82 | 5 => 5 | 173 => 156 | 212 => 159 | 51 => 127 | 20 => 20 | 213 => 160 | 46 => 104 | 232 => 163 | 233 => 164 | n => n, fun | 17 => 4 | 18 => 5 | 19 => 6 | n => n⟩
theorem Tryd.laysM171 : Go.Proofs.LaysM.n171 Tryd.prog Tryd.laysM171_ren := {
  mixed := by kernel_rfl
  f129 := Tryd.func142.trans (congrArg some (by kernel_rfl))
  f171 := Tryd.func115.trans (congrArg some (by kernel_rfl))
  f243 := Tryd.func127.trans (congrArg some (by kernel_rfl))
  f246 := Tryd.func133.trans (congrArg some (by kernel_rfl))
  f283 := Tryd.func137.trans (congrArg some (by kernel_rfl))
  f284 := Tryd.func138.trans (congrArg some (by kernel_rfl))
  f285 := Tryd.func139.trans (congrArg some (by kernel_rfl))
  f286 := Tryd.func140.trans (congrArg some (by kernel_rfl))
  f317 := Tryd.func141.trans (congrArg some (by kernel_rfl))
  f318 := Tryd.func143.trans (congrArg some (by kernel_rfl))
  f319 := Tryd.func144.trans (congrArg some (by kernel_rfl))
  f320 := Tryd.func145.trans (congrArg some (by kernel_rfl))
  f337 := Tryd.func146.trans (congrArg some (by kernel_rfl))
  f338 := Tryd.func147.trans (congrArg some (by kernel_rfl))
  t0 := Tryd.underlying0
  a0 := Tryd.isAgg0
  z0 := Tryd.sizeOf0
  v0 := Tryd.zeroValue0
  t2 := Tryd.underlying2
  a2 := Tryd.isAgg2
  z2 := Tryd.sizeOf2
  v2 := Tryd.zeroValue2
  t3 := Tryd.underlying3
  a3 := Tryd.isAgg3
  z3 := Tryd.sizeOf3
  v3 := Tryd.zeroValue3
  t4 := Tryd.underlying4
  a4 := Tryd.isAgg4
  z4 := Tryd.sizeOf4
  v4 := Tryd.zeroValue4
  t5 := Tryd.underlying5
  a5 := Tryd.isAgg5
  z5 := Tryd.sizeOf5
  v5 := Tryd.zeroValue5
  t9 := Tryd.underlying9
  a9 := Tryd.isAgg9
  z9 := Tryd.sizeOf9
  v9 := Tryd.zeroValue9
  t20 := Tryd.underlying20
  a20 := Tryd.isAgg20
  z20 := Tryd.sizeOf20
  v20 := Tryd.zeroValue20
  t37 := Tryd.underlying82
  a37 := Tryd.isAgg82
  z37 := Tryd.sizeOf82
  v37 := Tryd.zeroValue82
  t46 := Tryd.underlying104
  a46 := Tryd.isAgg104
  z46 := Tryd.sizeOf104
  v46 := Tryd.zeroValue104
  t51 := Tryd.underlying127
  a51 := Tryd.isAgg127
  z51 := Tryd.sizeOf127
  v51 := Tryd.zeroValue127
  t53 := Tryd.underlying130
  a53 := Tryd.isAgg130
  z53 := Tryd.sizeOf130
  v53 := Tryd.zeroValue130
  t171 := Tryd.underlying153
  a171 := Tryd.isAgg153
  z171 := Tryd.sizeOf153
  v171 := Tryd.zeroValue153
  t173 := Tryd.underlying156
  a173 := Tryd.isAgg156
  z173 := Tryd.sizeOf156
  v173 := Tryd.zeroValue156
  t212 := Tryd.underlying159
  a212 := Tryd.isAgg159
  z212 := Tryd.sizeOf159
  v212 := Tryd.zeroValue159
  t213 := Tryd.underlying160
  a213 := Tryd.isAgg160
  z213 := Tryd.sizeOf160
  t232 := Tryd.underlying163
  a232 := Tryd.isAgg163
  z232 := Tryd.sizeOf163
  v232 := Tryd.zeroValue163
  t233 := Tryd.underlying164
  a233 := Tryd.isAgg164
  z233 := Tryd.sizeOf164
  v233 := Tryd.zeroValue164
  g17 := by kernel_rfl
  g18 := by kernel_rfl
  g19 := by kernel_rfl
  i0 := by kernel_rfl
  i2 := by kernel_rfl
  i3 := by kernel_rfl
  i4 := by kernel_rfl
  i5 := by kernel_rfl
  i9 := by kernel_rfl
  i20 := by kernel_rfl
  i37 := by kernel_rfl
  i46 := by kernel_rfl
  i51 := by kernel_rfl
  i53 := by kernel_rfl
  i171 := by kernel_rfl
  i173 := by kernel_rfl
  i212 := by kernel_rfl
  i232 := by kernel_rfl
  i233 := by kernel_rfl
  m17 := by kernel_rfl
  m18 := by kernel_rfl
  m19 := by kernel_rfl }
open Go.RowKit Go.Sort Go.Lib in
theorem Tryd.strconv_Itoa (n : Int) (h0 : -9223372036854775808 ≤ n) (h1 : n ≤ 9223372036854775807) (w : World) (htab : Lib.TabIs Tryd.prog w "internal/strconv.uint64pow10" .u64 Lib.pow10Tab) :
    Calls Tryd.prog 115 #[.int .i64 n] w fun e w' => e = .returned (.string ⟨(Lib.itoa n).toArray⟩) ∧ ∃ k os, w' = grow (w.drewN k) os := Any.strconv_Itoa Tryd.laysM171 n h0 h1 w htab
def Tryd.lays171_ren : Go.Shelf.Ren := ⟨fun | 171 => 115 | 243 => 127 | 246 => 133 | 283 => 137 | 284 => 138 | 285 => 139 | 286 => 140 | 129 => 142 | 317 => 141 | 318 => 143 | 319 => 144 | 320 => 145 | 337 => 146 | 338 => 147 | n => n, fun | 3 => 3 | 9 => 9 | 2 => 2 | 4 => 4 | 171 => 153 | 0 => 0 | 53 => 130 | 37 => 82 | 5 => 5 | 173 => 156 | 212 => 159 | 51 => 127 | 20 => 20 | 213 => 160 | 46 => 104 | 232 => 163 | 233 => 164 | n => n, fun | 17 => 4 | 18 => 5 | 19 => 6 | n => n⟩
theorem Tryd.lays171 : Go.Proofs.Lays.n171 Tryd.prog Tryd.lays171_ren := {
  mixed := by kernel_rfl
  f129 := Tryd.func142.trans (congrArg some (by kernel_rfl))
  f171 := Tryd.func115.trans (congrArg some (by kernel_rfl))
  f243 := Tryd.func127.trans (congrArg some (by kernel_rfl))
  f246 := Tryd.func133.trans (congrArg some (by kernel_rfl))
  f283 := Tryd.func137.trans (congrArg some (by kernel_rfl))
  f284 := Tryd.func138.trans (congrArg some (by kernel_rfl))
  f285 := Tryd.func139.trans (congrArg some (by kernel_rfl))
  f286 := Tryd.func140.trans (congrArg some (by kernel_rfl))
  f317 := Tryd.func141.trans (congrArg some (by kernel_rfl))
  f318 := Tryd.func143.trans (congrArg some (by kernel_rfl))
  f319 := Tryd.func144.trans (congrArg some (by kernel_rfl))
  f320 := Tryd.func145.trans (congrArg some (by kernel_rfl))
  f337 := Tryd.func146.trans (congrArg some (by kernel_rfl))
  f338 := Tryd.func147.trans (congrArg some (by kernel_rfl))
  t0 := Tryd.underlying0
  a0 := Tryd.isAgg0
  z0 := Tryd.sizeOf0
  v0 := Tryd.zeroValue0
  t2 := Tryd.underlying2
  a2 := Tryd.isAgg2
  z2 := Tryd.sizeOf2
  v2 := Tryd.zeroValue2
  t3 := Tryd.underlying3
  a3 := Tryd.isAgg3
  z3 := Tryd.sizeOf3
  v3 := Tryd.zeroValue3
  t4 := Tryd.underlying4
  a4 := Tryd.isAgg4
  z4 := Tryd.sizeOf4
  v4 := Tryd.zeroValue4
  t5 := Tryd.underlying5
  a5 := Tryd.isAgg5
  z5 := Tryd.sizeOf5
  v5 := Tryd.zeroValue5
  t9 := Tryd.underlying9
  a9 := Tryd.isAgg9
  z9 := Tryd.sizeOf9
  v9 := Tryd.zeroValue9
  t20 := Tryd.underlying20
  a20 := Tryd.isAgg20
  z20 := Tryd.sizeOf20
  v20 := Tryd.zeroValue20
  t37 := Tryd.underlying82
  a37 := Tryd.isAgg82
  z37 := Tryd.sizeOf82
  v37 := Tryd.zeroValue82
  t46 := Tryd.underlying104
  a46 := Tryd.isAgg104
  z46 := Tryd.sizeOf104
  v46 := Tryd.zeroValue104
  t51 := Tryd.underlying127
  a51 := Tryd.isAgg127
  z51 := Tryd.sizeOf127
  v51 := Tryd.zeroValue127
  t53 := Tryd.underlying130
  a53 := Tryd.isAgg130
  z53 := Tryd.sizeOf130
  v53 := Tryd.zeroValue130
  t171 := Tryd.underlying153
  a171 := Tryd.isAgg153
  z171 := Tryd.sizeOf153
  v171 := Tryd.zeroValue153
  t173 := Tryd.underlying156
  a173 := Tryd.isAgg156
  z173 := Tryd.sizeOf156
  v173 := Tryd.zeroValue156
  t212 := Tryd.underlying159
  a212 := Tryd.isAgg159
  z212 := Tryd.sizeOf159
  v212 := Tryd.zeroValue159
  t213 := Tryd.underlying160
  a213 := Tryd.isAgg160
  z213 := Tryd.sizeOf160
  t232 := Tryd.underlying163
  a232 := Tryd.isAgg163
  z232 := Tryd.sizeOf163
  v232 := Tryd.zeroValue163
  t233 := Tryd.underlying164
  a233 := Tryd.isAgg164
  z233 := Tryd.sizeOf164
  v233 := Tryd.zeroValue164
  g17 := by kernel_rfl
  g18 := by kernel_rfl
  g19 := by kernel_rfl }
open Go.RowKit Go.Sort Go.Lib in
theorem Tryd.strconv_Itoa_small (i : Nat) (hi : i < 100) (w : World) :
    Calls Tryd.prog 115 #[.int .i64 i] w fun e w' => e = .returned (.string ⟨(Lib.decDigits i).toArray⟩) ∧ w' = w := Any.strconv_Itoa_small Tryd.lays171 i hi w
def Tryd.lays217_ren : Go.Shelf.Ren := ⟨fun | 217 => 117 | 266 => 128 | n => n, fun | 9 => 9 | 5 => 5 | 3 => 3 | n => n, fun | n => n⟩
theorem Tryd.lays217 : Go.Proofs.Lays.n217 Tryd.prog Tryd.lays217_ren := {
  mixed := by kernel_rfl
  f217 := Tryd.func117.trans (congrArg some (by kernel_rfl))
  f266 := Tryd.func128.trans (congrArg some (by kernel_rfl))
  t3 := Tryd.underlying3
  a3 := Tryd.isAgg3
  z3 := Tryd.sizeOf3
  v3 := Tryd.zeroValue3
  t5 := Tryd.underlying5
  a5 := Tryd.isAgg5
  z5 := Tryd.sizeOf5
  v5 := Tryd.zeroValue5
  t9 := Tryd.underlying9
  a9 := Tryd.isAgg9
  z9 := Tryd.sizeOf9
  v9 := Tryd.zeroValue9 }
open Go.RowKit Go.Lib in
theorem Tryd.stringslite_IndexByte (s : ByteArray) (c : Int) (w : World) :
    Calls Tryd.prog 117 #[.string s, .int .u8 c] w fun e w' => e = .returned (.int .i64 (Lib.indexByte s.data.toList c.toNat.toUInt8)) ∧ w' = w := Any.stringslite_IndexByte Tryd.lays217 s c w
def Tryd.lays224_ren : Go.Shelf.Ren := ⟨fun | 224 => 119 | n => n, fun | 3 => 3 | n => n, fun | n => n⟩
theorem Tryd.lays224 : Go.Proofs.Lays.n224 Tryd.prog Tryd.lays224_ren := {
  mixed := by kernel_rfl
  f224 := Tryd.func119.trans (congrArg some (by kernel_rfl))
  t3 := Tryd.underlying3
  a3 := Tryd.isAgg3
  z3 := Tryd.sizeOf3
  v3 := Tryd.zeroValue3 }
open Go.RowKit Go.Lib in
theorem Tryd.bytealg_Cutover (n : Int) (h0 : 0 ≤ n) (h1 : n < 4611686018427387904) (w : World) :
    Calls Tryd.prog 119 #[.int .i64 n] w fun e w' => e = .returned (.int .i64 ((n + 16) / 8)) ∧ w' = w := Any.bytealg_Cutover Tryd.lays224 n h0 h1 w
def Tryd.lays314_ren : Go.Shelf.Ren := ⟨fun | 314 => 129 | n => n, fun | 9 => 9 | 51 => 127 | 3 => 3 | 4 => 4 | 5 => 5 | 46 => 104 | n => n, fun | n => n⟩
theorem Tryd.lays314 : Go.Proofs.Lays.n314 Tryd.prog Tryd.lays314_ren := {
  mixed := by kernel_rfl
  f314 := Tryd.func129.trans (congrArg some (by kernel_rfl))
  t3 := Tryd.underlying3
  a3 := Tryd.isAgg3
  z3 := Tryd.sizeOf3
  v3 := Tryd.zeroValue3
  t4 := Tryd.underlying4
  a4 := Tryd.isAgg4
  z4 := Tryd.sizeOf4
  v4 := Tryd.zeroValue4
  t5 := Tryd.underlying5
  a5 := Tryd.isAgg5
  z5 := Tryd.sizeOf5
  v5 := Tryd.zeroValue5
  t9 := Tryd.underlying9
  a9 := Tryd.isAgg9
  z9 := Tryd.sizeOf9
  v9 := Tryd.zeroValue9
  t46 := Tryd.underlying104
  a46 := Tryd.isAgg104
  z46 := Tryd.sizeOf104
  v46 := Tryd.zeroValue104
  t51 := Tryd.underlying127
  a51 := Tryd.isAgg127
  z51 := Tryd.sizeOf127
  v51 := Tryd.zeroValue127 }
open Go.RowKit Go.Lib in
theorem Tryd.bytealg_hashStr (sep : ByteArray) (hs : sep.size < 4294967281) (w : World) :
    Calls Tryd.prog 129 #[.string sep] w fun e w' => e = .returned (.tuple #[.int .u32 (RK.H sep.data.toList % 4294967296), .int .u32 (16777619 ^ sep.size % 4294967296)]) ∧ w' = w := Any.bytealg_hashStr Tryd.lays314 sep hs w
def Tryd.lays267_ren : Go.Shelf.Ren := ⟨fun | 267 => 120 | 314 => 129 | n => n, fun | 9 => 9 | 3 => 3 | 146 => 128 | 51 => 127 | 4 => 4 | 5 => 5 | 46 => 104 | n => n, fun | n => n⟩
theorem Tryd.lays267 : Go.Proofs.Lays.n267 Tryd.prog Tryd.lays267_ren := {
  mixed := by kernel_rfl
  f267 := Tryd.func120.trans (congrArg some (by kernel_rfl))
  f314 := Tryd.func129.trans (congrArg some (by kernel_rfl))
  t3 := Tryd.underlying3
  a3 := Tryd.isAgg3
  z3 := Tryd.sizeOf3
  v3 := Tryd.zeroValue3
  t4 := Tryd.underlying4
  a4 := Tryd.isAgg4
  z4 := Tryd.sizeOf4
  v4 := Tryd.zeroValue4
  t5 := Tryd.underlying5
  a5 := Tryd.isAgg5
  z5 := Tryd.sizeOf5
  v5 := Tryd.zeroValue5
  t9 := Tryd.underlying9
  a9 := Tryd.isAgg9
  z9 := Tryd.sizeOf9
  v9 := Tryd.zeroValue9
  t46 := Tryd.underlying104
  a46 := Tryd.isAgg104
  z46 := Tryd.sizeOf104
  v46 := Tryd.zeroValue104
  t51 := Tryd.underlying127
  a51 := Tryd.isAgg127
  z51 := Tryd.sizeOf127
  v51 := Tryd.zeroValue127
  t146 := Tryd.underlying128
  a146 := Tryd.isAgg128
  z146 := Tryd.sizeOf128
  v146 := Tryd.zeroValue128 }
open Go.RowKit Go.Lib in
theorem Tryd.bytealg_IndexRabinKarp (s sep : ByteArray) (h1 : 1 ≤ sep.size) (h2 : sep.size ≤ s.size) (hs : s.size < 4294967281) (w : World) :
    Calls Tryd.prog 120 #[.string s, .string sep] w fun e w' => e = .returned (.int .i64 (Lib.index s.data.toList sep.data.toList)) ∧ w' = w := Any.bytealg_IndexRabinKarp Tryd.lays267 s sep h1 h2 hs w
def Tryd.lays219_ren : Go.Shelf.Ren := ⟨fun | 219 => 105 | 217 => 117 | 225 => 118 | 224 => 119 | 267 => 120 | 266 => 128 | 314 => 129 | n => n, fun | 9 => 9 | 3 => 3 | 4 => 4 | 5 => 5 | 46 => 104 | 146 => 128 | 51 => 127 | n => n, fun | 1 => 1 | n => n⟩
theorem Tryd.lays219 : Go.Proofs.Lays.n219 Tryd.prog Tryd.lays219_ren := {
  mixed := by kernel_rfl
  f217 := Tryd.func117.trans (congrArg some (by kernel_rfl))
  f219 := Tryd.func105.trans (congrArg some (by kernel_rfl))
  f224 := Tryd.func119.trans (congrArg some (by kernel_rfl))
  f225 := Tryd.func118.trans (congrArg some (by kernel_rfl))
  f266 := Tryd.func128.trans (congrArg some (by kernel_rfl))
  f267 := Tryd.func120.trans (congrArg some (by kernel_rfl))
  f314 := Tryd.func129.trans (congrArg some (by kernel_rfl))
  t3 := Tryd.underlying3
  a3 := Tryd.isAgg3
  z3 := Tryd.sizeOf3
  v3 := Tryd.zeroValue3
  t4 := Tryd.underlying4
  a4 := Tryd.isAgg4
  z4 := Tryd.sizeOf4
  v4 := Tryd.zeroValue4
  t5 := Tryd.underlying5
  a5 := Tryd.isAgg5
  z5 := Tryd.sizeOf5
  v5 := Tryd.zeroValue5
  t9 := Tryd.underlying9
  a9 := Tryd.isAgg9
  z9 := Tryd.sizeOf9
  v9 := Tryd.zeroValue9
  t46 := Tryd.underlying104
  a46 := Tryd.isAgg104
  z46 := Tryd.sizeOf104
  v46 := Tryd.zeroValue104
  t51 := Tryd.underlying127
  a51 := Tryd.isAgg127
  z51 := Tryd.sizeOf127
  v51 := Tryd.zeroValue127
  t146 := Tryd.underlying128
  a146 := Tryd.isAgg128
  z146 := Tryd.sizeOf128
  v146 := Tryd.zeroValue128
  g1 := by kernel_rfl }
open Go.RowKit Go.Lib in
theorem Tryd.stringslite_Index_one (s : ByteArray) (c : UInt8) (w : World) :
    Calls Tryd.prog 105 #[.string s, .string ⟨#[c]⟩] w fun e w' => e = .returned (.int .i64 (Lib.indexByte s.data.toList c)) ∧ w' = w := Any.stringslite_Index_one Tryd.lays219 s c w
open Go.RowKit Go.Lib in
theorem Tryd.stringslite_Index (s sub : ByteArray) (m : Int) (w : World) (hs : s.size < 4294967281) (hm : w.cell? ⟨1, 0, none⟩ = some (.int .i64 m)) :
    Calls Tryd.prog 105 #[.string s, .string sub] w fun e w' => e = .returned (.int .i64 (Lib.index s.data.toList sub.data.toList)) ∧ w' = w := Any.stringslite_Index Tryd.lays219 s sub m w hs hm
def Tryd.lays143_ren : Go.Shelf.Ren := ⟨fun | 143 => 81 | 219 => 105 | 217 => 117 | 225 => 118 | 224 => 119 | 267 => 120 | 266 => 128 | 314 => 129 | n => n, fun | 9 => 9 | 3 => 3 | 4 => 4 | 5 => 5 | 46 => 104 | 146 => 128 | 51 => 127 | n => n, fun | 1 => 1 | n => n⟩
theorem Tryd.lays143 : Go.Proofs.Lays.n143 Tryd.prog Tryd.lays143_ren := {
  mixed := by kernel_rfl
  f143 := Tryd.func81.trans (congrArg some (by kernel_rfl))
  f217 := Tryd.func117.trans (congrArg some (by kernel_rfl))
  f219 := Tryd.func105.trans (congrArg some (by kernel_rfl))
  f224 := Tryd.func119.trans (congrArg some (by kernel_rfl))
  f225 := Tryd.func118.trans (congrArg some (by kernel_rfl))
  f266 := Tryd.func128.trans (congrArg some (by kernel_rfl))
  f267 := Tryd.func120.trans (congrArg some (by kernel_rfl))
  f314 := Tryd.func129.trans (congrArg some (by kernel_rfl))
  t3 := Tryd.underlying3
  a3 := Tryd.isAgg3
  z3 := Tryd.sizeOf3
  v3 := Tryd.zeroValue3
  t4 := Tryd.underlying4
  a4 := Tryd.isAgg4
  z4 := Tryd.sizeOf4
  v4 := Tryd.zeroValue4
  t5 := Tryd.underlying5
  a5 := Tryd.isAgg5
  z5 := Tryd.sizeOf5
  v5 := Tryd.zeroValue5
  t9 := Tryd.underlying9
  a9 := Tryd.isAgg9
  z9 := Tryd.sizeOf9
  v9 := Tryd.zeroValue9
  t46 := Tryd.underlying104
  a46 := Tryd.isAgg104
  z46 := Tryd.sizeOf104
  v46 := Tryd.zeroValue104
  t51 := Tryd.underlying127
  a51 := Tryd.isAgg127
  z51 := Tryd.sizeOf127
  v51 := Tryd.zeroValue127
  t146 := Tryd.underlying128
  a146 := Tryd.isAgg128
  z146 := Tryd.sizeOf128
  v146 := Tryd.zeroValue128
  g1 := by kernel_rfl }
open Go.RowKit Go.Lib in
theorem Tryd.strings_Index_one (s : ByteArray) (c : UInt8) (w : World) :
    Calls Tryd.prog 81 #[.string s, .string ⟨#[c]⟩] w fun e w' => e = .returned (.int .i64 (Lib.indexByte s.data.toList c)) ∧ w' = w := Any.strings_Index_one Tryd.lays143 s c w
open Go.RowKit Go.Lib in
theorem Tryd.strings_Index (s sub : ByteArray) (m : Int) (w : World) (hs : s.size < 4294967281) (hm : w.cell? ⟨1, 0, none⟩ = some (.int .i64 m)) :
    Calls Tryd.prog 81 #[.string s, .string sub] w fun e w' => e = .returned (.int .i64 (Lib.index s.data.toList sub.data.toList)) ∧ w' = w := Any.strings_Index Tryd.lays143 s sub m w hs hm
def Tryd.lays144_ren : Go.Shelf.Ren := ⟨fun | 144 => 41 | 143 => 81 | 219 => 105 | 217 => 117 | 225 => 118 | 224 => 119 | 267 => 120 | 266 => 128 | 314 => 129 | n => n, fun | 9 => 9 | 4 => 4 | 3 => 3 | 5 => 5 | 46 => 104 | 146 => 128 | 51 => 127 | n => n, fun | 1 => 1 | n => n⟩
theorem Tryd.lays144 : Go.Proofs.Lays.n144 Tryd.prog Tryd.lays144_ren := {
  mixed := by kernel_rfl
  f143 := Tryd.func81.trans (congrArg some (by kernel_rfl))
  f144 := Tryd.func41.trans (congrArg some (by kernel_rfl))
  f217 := Tryd.func117.trans (congrArg some (by kernel_rfl))
  f219 := Tryd.func105.trans (congrArg some (by kernel_rfl))
  f224 := Tryd.func119.trans (congrArg some (by kernel_rfl))
  f225 := Tryd.func118.trans (congrArg some (by kernel_rfl))
  f266 := Tryd.func128.trans (congrArg some (by kernel_rfl))
  f267 := Tryd.func120.trans (congrArg some (by kernel_rfl))
  f314 := Tryd.func129.trans (congrArg some (by kernel_rfl))
  t3 := Tryd.underlying3
  a3 := Tryd.isAgg3
  z3 := Tryd.sizeOf3
  v3 := Tryd.zeroValue3
  t4 := Tryd.underlying4
  a4 := Tryd.isAgg4
  z4 := Tryd.sizeOf4
  v4 := Tryd.zeroValue4
  t5 := Tryd.underlying5
  a5 := Tryd.isAgg5
  z5 := Tryd.sizeOf5
  v5 := Tryd.zeroValue5
  t9 := Tryd.underlying9
  a9 := Tryd.isAgg9
  z9 := Tryd.sizeOf9
  v9 := Tryd.zeroValue9
  t46 := Tryd.underlying104
  a46 := Tryd.isAgg104
  z46 := Tryd.sizeOf104
  v46 := Tryd.zeroValue104
  t51 := Tryd.underlying127
  a51 := Tryd.isAgg127
  z51 := Tryd.sizeOf127
  v51 := Tryd.zeroValue127
  t146 := Tryd.underlying128
  a146 := Tryd.isAgg128
  z146 := Tryd.sizeOf128
  v146 := Tryd.zeroValue128
  g1 := by kernel_rfl }
open Go.RowKit Go.Lib in
theorem Tryd.strings_Contains_one (s : ByteArray) (c : UInt8) (w : World) :
    Calls Tryd.prog 41 #[.string s, .string ⟨#[c]⟩] w fun e w' => e = .returned (.bool (decide (0 ≤ Lib.indexByte s.data.toList c))) ∧ w' = w := Any.strings_Contains_one Tryd.lays144 s c w
open Go.RowKit Go.Lib in
theorem Tryd.strings_Contains (s sub : ByteArray) (m : Int) (w : World) (hs : s.size < 4294967281) (hm : w.cell? ⟨1, 0, none⟩ = some (.int .i64 m)) :
    Calls Tryd.prog 41 #[.string s, .string sub] w fun e w' => e = .returned (.bool (Lib.contains s.data.toList sub.data.toList)) ∧ w' = w := Any.strings_Contains Tryd.lays144 s sub m w hs hm
def Tryd.lays138_ren : Go.Shelf.Ren := ⟨fun | 138 => 42 | 195 => 82 | 218 => 83 | 143 => 81 | 219 => 105 | 217 => 117 | 225 => 118 | 224 => 119 | 267 => 120 | 266 => 128 | 314 => 129 | n => n, fun | 9 => 9 | 3 => 3 | 4 => 4 | 5 => 5 | 0 => 0 | 46 => 104 | 146 => 128 | 51 => 127 | n => n, fun | 1 => 1 | n => n⟩
theorem Tryd.lays138 : Go.Proofs.Lays.n138 Tryd.prog Tryd.lays138_ren := {
  mixed := by kernel_rfl
  f138 := Tryd.func42.trans (congrArg some (by kernel_rfl))
  f143 := Tryd.func81.trans (congrArg some (by kernel_rfl))
  f195 := Tryd.func82.trans (congrArg some (by kernel_rfl))
  f217 := Tryd.func117.trans (congrArg some (by kernel_rfl))
  f218 := Tryd.func83.trans (congrArg some (by kernel_rfl))
  f219 := Tryd.func105.trans (congrArg some (by kernel_rfl))
  f224 := Tryd.func119.trans (congrArg some (by kernel_rfl))
  f225 := Tryd.func118.trans (congrArg some (by kernel_rfl))
  f266 := Tryd.func128.trans (congrArg some (by kernel_rfl))
  f267 := Tryd.func120.trans (congrArg some (by kernel_rfl))
  f314 := Tryd.func129.trans (congrArg some (by kernel_rfl))
  t0 := Tryd.underlying0
  a0 := Tryd.isAgg0
  z0 := Tryd.sizeOf0
  v0 := Tryd.zeroValue0
  t3 := Tryd.underlying3
  a3 := Tryd.isAgg3
  z3 := Tryd.sizeOf3
  v3 := Tryd.zeroValue3
  t4 := Tryd.underlying4
  a4 := Tryd.isAgg4
  z4 := Tryd.sizeOf4
  v4 := Tryd.zeroValue4
  t5 := Tryd.underlying5
  a5 := Tryd.isAgg5
  z5 := Tryd.sizeOf5
  v5 := Tryd.zeroValue5
  t9 := Tryd.underlying9
  a9 := Tryd.isAgg9
  z9 := Tryd.sizeOf9
  v9 := Tryd.zeroValue9
  t46 := Tryd.underlying104
  a46 := Tryd.isAgg104
  z46 := Tryd.sizeOf104
  v46 := Tryd.zeroValue104
  t51 := Tryd.underlying127
  a51 := Tryd.isAgg127
  z51 := Tryd.sizeOf127
  v51 := Tryd.zeroValue127
  t146 := Tryd.underlying128
  a146 := Tryd.isAgg128
  z146 := Tryd.sizeOf128
  v146 := Tryd.zeroValue128
  g1 := by kernel_rfl }
open Go.RowKit Go.Lib in
theorem Tryd.strings_Count_one (s : ByteArray) (c : UInt8) (w : World) :
    Calls Tryd.prog 42 #[.string s, .string ⟨#[c]⟩] w fun e w' => e = .returned (.int .i64 (Lib.countByte s.data.toList c)) ∧ w' = w := Any.strings_Count_one Tryd.lays138 s c w
open Go.RowKit Go.Lib in
theorem Tryd.strings_Count (s sub : ByteArray) (m : Int) (w : World) (hs : s.size < 4294967281) (hm : w.cell? ⟨1, 0, none⟩ = some (.int .i64 m)) (h2 : 2 ≤ sub.size) :
    Calls Tryd.prog 42 #[.string s, .string sub] w fun e w' => e = .returned (.int .i64 (Lib.countB s sub)) ∧ w' = w := Any.strings_Count Tryd.lays138 s sub m w hs hm h2
def Tryd.laysM219_ren : Go.Shelf.Ren := ⟨fun | 219 => 105 | 217 => 117 | 225 => 118 | 224 => 119 | 267 => 120 | 266 => 128 | 314 => 129 | n => n, fun | 9 => 9 | 3 => 3 | 4 => 4 | 5 => 5 | 46 => 104 | 146 => 128 | 51 => 127 | n => n, fun | 1 => 1 | n => n⟩
theorem Tryd.laysM219 : Go.Proofs.LaysM.n219 Tryd.prog Tryd.laysM219_ren := {
  mixed := by kernel_rfl
  f217 := Tryd.func117.trans (congrArg some (by kernel_rfl))
  f219 := Tryd.func105.trans (congrArg some (by kernel_rfl))
  f224 := Tryd.func119.trans (congrArg some (by kernel_rfl))
  f225 := Tryd.func118.trans (congrArg some (by kernel_rfl))
  f266 := Tryd.func128.trans (congrArg some (by kernel_rfl))
  f267 := Tryd.func120.trans (congrArg some (by kernel_rfl))
  f314 := Tryd.func129.trans (congrArg some (by kernel_rfl))
  t3 := Tryd.underlying3
  a3 := Tryd.isAgg3
  z3 := Tryd.sizeOf3
  v3 := Tryd.zeroValue3
  t4 := Tryd.underlying4
  a4 := Tryd.isAgg4
  z4 := Tryd.sizeOf4
  v4 := Tryd.zeroValue4
  t5 := Tryd.underlying5
  a5 := Tryd.isAgg5
  z5 := Tryd.sizeOf5
  v5 := Tryd.zeroValue5
  t9 := Tryd.underlying9
  a9 := Tryd.isAgg9
  z9 := Tryd.sizeOf9
  v9 := Tryd.zeroValue9
  t46 := Tryd.underlying104
  a46 := Tryd.isAgg104
  z46 := Tryd.sizeOf104
  v46 := Tryd.zeroValue104
  t51 := Tryd.underlying127
  a51 := Tryd.isAgg127
  z51 := Tryd.sizeOf127
  v51 := Tryd.zeroValue127
  t146 := Tryd.underlying128
  a146 := Tryd.isAgg128
  z146 := Tryd.sizeOf128
  v146 := Tryd.zeroValue128
  g1 := by kernel_rfl
  i3 := by kernel_rfl
  i4 := by kernel_rfl
  i5 := by kernel_rfl
  i9 := by kernel_rfl
  i46 := by kernel_rfl
  i51 := by kernel_rfl
  i146 := by kernel_rfl
  m1 := by kernel_rfl
  s1_3 := fun w h => Go.Proofs.cell_of_shapedOpen_int (zero := #[.int .i64 0]) (t := 3) h (of_decide_eq_true (by kernel_rfl)) (by kernel_rfl) rfl (by kernel_rfl) (by kernel_rfl) Tryd.underlying3 }
open Go.RowKit Go.Lib in
theorem Tryd.stringslite_Index_shaped (s sub : ByteArray) (w : World) (h : w.ShapedOpen Tryd.prog) (hs : s.size < 4294967281) :
    Calls Tryd.prog 105 #[.string s, .string sub] w fun e w' => e = .returned (.int .i64 (Lib.index s.data.toList sub.data.toList)) ∧ w' = w := Any.stringslite_Index_shaped Tryd.laysM219 s sub w h hs
def Tryd.laysM143_ren : Go.Shelf.Ren := ⟨fun | 143 => 81 | 219 => 105 | 217 => 117 | 225 => 118 | 224 => 119 | 267 => 120 | 266 => 128 | 314 => 129 | n => n, fun | 9 => 9 | 3 => 3 | 4 => 4 | 5 => 5 | 46 => 104 | 146 => 128 | 51 => 127 | n => n, fun | 1 => 1 | n => n⟩
theorem Tryd.laysM143 : Go.Proofs.LaysM.n143 Tryd.prog Tryd.laysM143_ren := {
  mixed := by kernel_rfl
  f143 := Tryd.func81.trans (congrArg some (by kernel_rfl))
  f217 := Tryd.func117.trans (congrArg some (by kernel_rfl))
  f219 := Tryd.func105.trans (congrArg some (by kernel_rfl))
  f224 := Tryd.func119.trans (congrArg some (by kernel_rfl))
  f225 := Tryd.func118.trans (congrArg some (by kernel_rfl))
  f266 := Tryd.func128.trans (congrArg some (by kernel_rfl))
  f267 := Tryd.func120.trans (congrArg some (by kernel_rfl))
  f314 := Tryd.func129.trans (congrArg some (by kernel_rfl))
  t3 := Tryd.underlying3
  a3 := Tryd.isAgg3
  z3 := Tryd.sizeOf3
  v3 := Tryd.zeroValue3
  t4 := Tryd.underlying4
  a4 := Tryd.isAgg4
  z4 := Tryd.sizeOf4
  v4 := Tryd.zeroValue4
  t5 := Tryd.underlying5
  a5 := Tryd.isAgg5
  z5 := Tryd.sizeOf5
  v5 := Tryd.zeroValue5
  t9 := Tryd.underlying9
  a9 := Tryd.isAgg9
  z9 := Tryd.sizeOf9
  v9 := Tryd.zeroValue9
  t46 := Tryd.underlying104
  a46 := Tryd.isAgg104
  z46 := Tryd.sizeOf104
  v46 := Tryd.zeroValue104
  t51 := Tryd.underlying127
  a51 := Tryd.isAgg127
  z51 := Tryd.sizeOf127
  v51 := Tryd.zeroValue127
  t146 := Tryd.underlying128
  a146 := Tryd.isAgg128
  z146 := Tryd.sizeOf128
  v146 := Tryd.zeroValue128
  g1 := by kernel_rfl
  i3 := by kernel_rfl
  i4 := by kernel_rfl
  i5 := by kernel_rfl
  i9 := by kernel_rfl
  i46 := by kernel_rfl
  i51 := by kernel_rfl
  i146 := by kernel_rfl
  m1 := by kernel_rfl
  s1_3 := fun w h => Go.Proofs.cell_of_shapedOpen_int (zero := #[.int .i64 0]) (t := 3) h (of_decide_eq_true (by kernel_rfl)) (by kernel_rfl) rfl (by kernel_rfl) (by kernel_rfl) Tryd.underlying3 }
open Go.RowKit Go.Lib in
theorem Tryd.strings_Index_shaped (s sub : ByteArray) (w : World) (h : w.ShapedOpen Tryd.prog) (hs : s.size < 4294967281) :
    Calls Tryd.prog 81 #[.string s, .string sub] w fun e w' => e = .returned (.int .i64 (Lib.index s.data.toList sub.data.toList)) ∧ w' = w := Any.strings_Index_shaped Tryd.laysM143 s sub w h hs
def Tryd.laysM144_ren : Go.Shelf.Ren := ⟨fun | 144 => 41 | 143 => 81 | 219 => 105 | 217 => 117 | 225 => 118 | 224 => 119 | 267 => 120 | 266 => 128 | 314 => 129 | n => n, fun | 9 => 9 | 4 => 4 | 3 => 3 | 5 => 5 | 46 => 104 | 146 => 128 | 51 => 127 | n => n, fun | 1 => 1 | n => n⟩
theorem Tryd.laysM144 : Go.Proofs.LaysM.n144 Tryd.prog Tryd.laysM144_ren := {
  mixed := by kernel_rfl
  f143 := Tryd.func81.trans (congrArg some (by kernel_rfl))
  f144 := Tryd.func41.trans (congrArg some (by kernel_rfl))
  f217 := Tryd.func117.trans (congrArg some (by kernel_rfl))
  f219 := Tryd.func105.trans (congrArg some (by kernel_rfl))
  f224 := Tryd.func119.trans (congrArg some (by kernel_rfl))
  f225 := Tryd.func118.trans (congrArg some (by kernel_rfl))
  f266 := Tryd.func128.trans (congrArg some (by kernel_rfl))
  f267 := Tryd.func120.trans (congrArg some (by kernel_rfl))
  f314 := Tryd.func129.trans (congrArg some (by kernel_rfl))
  t3 := Tryd.underlying3
  a3 := Tryd.isAgg3
  z3 := Tryd.sizeOf3
  v3 := Tryd.zeroValue3
  t4 := Tryd.underlying4
  a4 := Tryd.isAgg4
  z4 := Tryd.sizeOf4
  v4 := Tryd.zeroValue4
  t5 := Tryd.underlying5
  a5 := Tryd.isAgg5
  z5 := Tryd.sizeOf5
  v5 := Tryd.zeroValue5
  t9 := Tryd.underlying9
  a9 := Tryd.isAgg9
  z9 := Tryd.sizeOf9
  v9 := Tryd.zeroValue9
  t46 := Tryd.underlying104
  a46 := Tryd.isAgg104
  z46 := Tryd.sizeOf104
  v46 := Tryd.zeroValue104
  t51 := Tryd.underlying127
  a51 := Tryd.isAgg127
  z51 := Tryd.sizeOf127
  v51 := Tryd.zeroValue127
  t146 := Tryd.underlying128
  a146 := Tryd.isAgg128
  z146 := Tryd.sizeOf128
  v146 := Tryd.zeroValue128
  g1 := by kernel_rfl
  i3 := by kernel_rfl
  i4 := by kernel_rfl
  i5 := by kernel_rfl
  i9 := by kernel_rfl
  i46 := by kernel_rfl
  i51 := by kernel_rfl
  i146 := by kernel_rfl
  m1 := by kernel_rfl
  s1_3 := fun w h => Go.Proofs.cell_of_shapedOpen_int (zero := #[.int .i64 0]) (t := 3) h (of_decide_eq_true (by kernel_rfl)) (by kernel_rfl) rfl (by kernel_rfl) (by kernel_rfl) Tryd.underlying3 }
open Go.RowKit Go.Lib in
theorem Tryd.strings_Contains_shaped (s sub : ByteArray) (w : World) (h : w.ShapedOpen Tryd.prog) (hs : s.size < 4294967281) :
    Calls Tryd.prog 41 #[.string s, .string sub] w fun e w' => e = .returned (.bool (Lib.contains s.data.toList sub.data.toList)) ∧ w' = w := Any.strings_Contains_shaped Tryd.laysM144 s sub w h hs
def Tryd.laysM138_ren : Go.Shelf.Ren := ⟨fun | 138 => 42 | 195 => 82 | 218 => 83 | 143 => 81 | 219 => 105 | 217 => 117 | 225 => 118 | 224 => 119 | 267 => 120 | 266 => 128 | 314 => 129 | n => n, fun | 9 => 9 | 3 => 3 | 4 => 4 | 5 => 5 | 0 => 0 | 46 => 104 | 146 => 128 | 51 => 127 | n => n, fun | 1 => 1 | n => n⟩
theorem Tryd.laysM138 : Go.Proofs.LaysM.n138 Tryd.prog Tryd.laysM138_ren := {
  mixed := by kernel_rfl
  f138 := Tryd.func42.trans (congrArg some (by kernel_rfl))
  f143 := Tryd.func81.trans (congrArg some (by kernel_rfl))
  f195 := Tryd.func82.trans (congrArg some (by kernel_rfl))
  f217 := Tryd.func117.trans (congrArg some (by kernel_rfl))
  f218 := Tryd.func83.trans (congrArg some (by kernel_rfl))
  f219 := Tryd.func105.trans (congrArg some (by kernel_rfl))
  f224 := Tryd.func119.trans (congrArg some (by kernel_rfl))
  f225 := Tryd.func118.trans (congrArg some (by kernel_rfl))
  f266 := Tryd.func128.trans (congrArg some (by kernel_rfl))
  f267 := Tryd.func120.trans (congrArg some (by kernel_rfl))
  f314 := Tryd.func129.trans (congrArg some (by kernel_rfl))
  t0 := Tryd.underlying0
  a0 := Tryd.isAgg0
  z0 := Tryd.sizeOf0
  v0 := Tryd.zeroValue0
  t3 := Tryd.underlying3
  a3 := Tryd.isAgg3
  z3 := Tryd.sizeOf3
  v3 := Tryd.zeroValue3
  t4 := Tryd.underlying4
  a4 := Tryd.isAgg4
  z4 := Tryd.sizeOf4
  v4 := Tryd.zeroValue4
  t5 := Tryd.underlying5
  a5 := Tryd.isAgg5
  z5 := Tryd.sizeOf5
  v5 := Tryd.zeroValue5
  t9 := Tryd.underlying9
  a9 := Tryd.isAgg9
  z9 := Tryd.sizeOf9
  v9 := Tryd.zeroValue9
  t46 := Tryd.underlying104
  a46 := Tryd.isAgg104
  z46 := Tryd.sizeOf104
  v46 := Tryd.zeroValue104
  t51 := Tryd.underlying127
  a51 := Tryd.isAgg127
  z51 := Tryd.sizeOf127
  v51 := Tryd.zeroValue127
  t146 := Tryd.underlying128
  a146 := Tryd.isAgg128
  z146 := Tryd.sizeOf128
  v146 := Tryd.zeroValue128
  g1 := by kernel_rfl
  i0 := by kernel_rfl
  i3 := by kernel_rfl
  i4 := by kernel_rfl
  i5 := by kernel_rfl
  i9 := by kernel_rfl
  i46 := by kernel_rfl
  i51 := by kernel_rfl
  i146 := by kernel_rfl
  m1 := by kernel_rfl
  s1_3 := fun w h => Go.Proofs.cell_of_shapedOpen_int (zero := #[.int .i64 0]) (t := 3) h (of_decide_eq_true (by kernel_rfl)) (by kernel_rfl) rfl (by kernel_rfl) (by kernel_rfl) Tryd.underlying3 }
open Go.RowKit Go.Lib in
theorem Tryd.strings_Count_shaped (s sub : ByteArray) (w : World) (h : w.ShapedOpen Tryd.prog) (hs : s.size < 4294967281) (h2 : 2 ≤ sub.size) :
    Calls Tryd.prog 42 #[.string s, .string sub] w fun e w' => e = .returned (.int .i64 (Lib.countB s sub)) ∧ w' = w := Any.strings_Count_shaped Tryd.laysM138 s sub w h hs h2
def Tryd.lays206_ren : Go.Shelf.Ren := ⟨fun | 206 => 53 | n => n, fun | 9 => 9 | 4 => 4 | 3 => 3 | n => n, fun | n => n⟩
theorem Tryd.lays206 : Go.Proofs.Lays.n206 Tryd.prog Tryd.lays206_ren := {
  mixed := by kernel_rfl
  f206 := Tryd.func53.trans (congrArg some (by kernel_rfl))
  t3 := Tryd.underlying3
  a3 := Tryd.isAgg3
  z3 := Tryd.sizeOf3
  v3 := Tryd.zeroValue3
  t4 := Tryd.underlying4
  a4 := Tryd.isAgg4
  z4 := Tryd.sizeOf4
  v4 := Tryd.zeroValue4
  t9 := Tryd.underlying9
  a9 := Tryd.isAgg9
  z9 := Tryd.sizeOf9
  v9 := Tryd.zeroValue9 }
open Go.RowKit Go.Lib in
theorem Tryd.stringslite_HasPrefix (s p : ByteArray) (w : World) :
    Calls Tryd.prog 53 #[.string s, .string p] w fun e w' => e = .returned (.bool (Lib.hasPrefix s.data.toList p.data.toList)) ∧ w' = w := Any.stringslite_HasPrefix Tryd.lays206 s p w
def Tryd.lays99_ren : Go.Shelf.Ren := ⟨fun | 99 => 16 | 206 => 53 | n => n, fun | 9 => 9 | 4 => 4 | 3 => 3 | n => n, fun | n => n⟩
theorem Tryd.lays99 : Go.Proofs.Lays.n99 Tryd.prog Tryd.lays99_ren := {
  mixed := by kernel_rfl
  f99 := Tryd.func16.trans (congrArg some (by kernel_rfl))
  f206 := Tryd.func53.trans (congrArg some (by kernel_rfl))
  t3 := Tryd.underlying3
  a3 := Tryd.isAgg3
  z3 := Tryd.sizeOf3
  v3 := Tryd.zeroValue3
  t4 := Tryd.underlying4
  a4 := Tryd.isAgg4
  z4 := Tryd.sizeOf4
  v4 := Tryd.zeroValue4
  t9 := Tryd.underlying9
  a9 := Tryd.isAgg9
  z9 := Tryd.sizeOf9
  v9 := Tryd.zeroValue9 }
open Go.RowKit Go.Lib in
theorem Tryd.strings_HasPrefix (s p : ByteArray) (w : World) :
    Calls Tryd.prog 16 #[.string s, .string p] w fun e w' => e = .returned (.bool (Lib.hasPrefix s.data.toList p.data.toList)) ∧ w' = w := Any.strings_HasPrefix Tryd.lays99 s p w
open Go.RowKit Go.Lib in
theorem Tryd.strings_Count_any (s sep : ByteArray) (m : Int) (w : World) (hs : s.size < 4294967281) (hm : w.cell? ⟨1, 0, none⟩ = some (.int .i64 m)) (h1 : 1 ≤ sep.size) :
    Calls Tryd.prog 42 #[.string s, .string sep] w fun e w' => e = .returned (.int .i64 (Lib.countB s sep)) ∧ w' = w := Any.strings_Count_any Tryd.lays138 s sep m w hs hm h1
def Tryd.lays154_ren : Go.Shelf.Ren := ⟨fun | 154 => 84 | 138 => 42 | 165 => 78 | 143 => 81 | 166 => 61 | 197 => 106 | 169 => 62 | 195 => 82 | 218 => 83 | 240 => 92 | 241 => 102 | 219 => 105 | 260 => 121 | 276 => 109 | 277 => 116 | 217 => 117 | 225 => 118 | 224 => 119 | 267 => 120 | 266 => 128 | 314 => 129 | n => n, fun | 9 => 9 | 3 => 3 | 4 => 4 | 72 => 84 | 0 => 0 | 76 => 87 | 105 => 133 | 21 => 21 | 5 => 5 | 70 => 81 | 20 => 20 | 37 => 82 | 75 => 86 | 127 => 115 | 164 => 136 | 46 => 104 | 119 => 146 | 139 => 149 | 138 => 148 | 146 => 128 | 51 => 127 | 80 => 89 | n => n, fun | 1 => 1 | 3 => 2 | 4 => 3 | n => n⟩
theorem Tryd.lays154 : Go.Proofs.Lays.n154 Tryd.prog Tryd.lays154_ren := {
  mixed := by kernel_rfl
  f138 := Tryd.func42.trans (congrArg some (by kernel_rfl))
  f143 := Tryd.func81.trans (congrArg some (by kernel_rfl))
  f154 := Tryd.func84.trans (congrArg some (by kernel_rfl))
  f165 := Tryd.func78.trans (congrArg some (by kernel_rfl))
  f166 := Tryd.func61.trans (congrArg some (by kernel_rfl))
  f169 := Tryd.func62.trans (congrArg some (by kernel_rfl))
  f195 := Tryd.func82.trans (congrArg some (by kernel_rfl))
  f197 := Tryd.func106.trans (congrArg some (by kernel_rfl))
  f217 := Tryd.func117.trans (congrArg some (by kernel_rfl))
  f218 := Tryd.func83.trans (congrArg some (by kernel_rfl))
  f219 := Tryd.func105.trans (congrArg some (by kernel_rfl))
  f224 := Tryd.func119.trans (congrArg some (by kernel_rfl))
  f225 := Tryd.func118.trans (congrArg some (by kernel_rfl))
  f240 := Tryd.func92.trans (congrArg some (by kernel_rfl))
  f241 := Tryd.func102.trans (congrArg some (by kernel_rfl))
  f260 := Tryd.func121.trans (congrArg some (by kernel_rfl))
  f266 := Tryd.func128.trans (congrArg some (by kernel_rfl))
  f267 := Tryd.func120.trans (congrArg some (by kernel_rfl))
  f276 := Tryd.func109.trans (congrArg some (by kernel_rfl))
  f277 := Tryd.func116.trans (congrArg some (by kernel_rfl))
  f314 := Tryd.func129.trans (congrArg some (by kernel_rfl))
  t0 := Tryd.underlying0
  a0 := Tryd.isAgg0
  z0 := Tryd.sizeOf0
  v0 := Tryd.zeroValue0
  t3 := Tryd.underlying3
  a3 := Tryd.isAgg3
  z3 := Tryd.sizeOf3
  v3 := Tryd.zeroValue3
  t4 := Tryd.underlying4
  a4 := Tryd.isAgg4
  z4 := Tryd.sizeOf4
  v4 := Tryd.zeroValue4
  t5 := Tryd.underlying5
  a5 := Tryd.isAgg5
  z5 := Tryd.sizeOf5
  v5 := Tryd.zeroValue5
  t9 := Tryd.underlying9
  a9 := Tryd.isAgg9
  z9 := Tryd.sizeOf9
  v9 := Tryd.zeroValue9
  t20 := Tryd.underlying20
  a20 := Tryd.isAgg20
  z20 := Tryd.sizeOf20
  v20 := Tryd.zeroValue20
  t21 := Tryd.underlying21
  a21 := Tryd.isAgg21
  z21 := Tryd.sizeOf21
  v21 := Tryd.zeroValue21
  t37 := Tryd.underlying82
  a37 := Tryd.isAgg82
  z37 := Tryd.sizeOf82
  v37 := Tryd.zeroValue82
  t46 := Tryd.underlying104
  a46 := Tryd.isAgg104
  z46 := Tryd.sizeOf104
  v46 := Tryd.zeroValue104
  t51 := Tryd.underlying127
  a51 := Tryd.isAgg127
  z51 := Tryd.sizeOf127
  v51 := Tryd.zeroValue127
  t70 := Tryd.underlying81
  a70 := Tryd.isAgg81
  z70 := Tryd.sizeOf81
  v70 := Tryd.zeroValue81
  t72 := Tryd.underlying84
  a72 := Tryd.isAgg84
  z72 := Tryd.sizeOf84
  v72 := Tryd.zeroValue84
  t75 := Tryd.underlying86
  a75 := Tryd.isAgg86
  z75 := Tryd.sizeOf86
  v75 := Tryd.zeroValue86
  t76 := Tryd.underlying87
  a76 := Tryd.isAgg87
  z76 := Tryd.sizeOf87
  v76 := Tryd.zeroValue87
  t105 := Tryd.underlying133
  a105 := Tryd.isAgg133
  z105 := Tryd.sizeOf133
  v105 := Tryd.zeroValue133
  t119 := Tryd.underlying146
  a119 := Tryd.isAgg146
  z119 := Tryd.sizeOf146
  t127 := Tryd.underlying115
  a127 := Tryd.isAgg115
  z127 := Tryd.sizeOf115
  v127 := Tryd.zeroValue115
  t138 := Tryd.underlying148
  a138 := Tryd.isAgg148
  z138 := Tryd.sizeOf148
  v138 := Tryd.zeroValue148
  t139 := Tryd.underlying149
  a139 := Tryd.isAgg149
  z139 := Tryd.sizeOf149
  v139 := Tryd.zeroValue149
  t146 := Tryd.underlying128
  a146 := Tryd.isAgg128
  z146 := Tryd.sizeOf128
  v146 := Tryd.zeroValue128
  t164 := Tryd.underlying136
  a164 := Tryd.isAgg136
  z164 := Tryd.sizeOf136
  v164 := Tryd.zeroValue136
  g1 := by kernel_rfl
  g3 := by kernel_rfl
  g4 := by kernel_rfl }
theorem Tryd.Builder_Extra_154 : Builder.Extra Tryd.prog Tryd.lays154_ren := {
  sizeBuilder := by kernel_rfl
  liesBuilder := by kernel_rfl
  t5 := Tryd.underlying5
  a5 := Tryd.isAgg5
  z5 := Tryd.sizeOf5
  v5 := Tryd.zeroValue5
  infoByte := by kernel_rfl
  cellsByte := by kernel_rfl
  sizeByte := by kernel_rfl
  neB5 := by decide }
open Go.RowKit Go.Lib in
theorem Tryd.strings_Replace_some (s old new : ByteArray) (n : Int) (m : Int) (w : World) (hs : s.size < 4294967281) (hm : w.cell? ⟨1, 0, none⟩ = some (.int .i64 m)) (h1 : 1 ≤ old.size) (hne : old ≠ new) (hn0 : n ≠ 0) (hc0 : Lib.countB s old ≠ 0) (hlen : s.size + Lib.countB s old * new.size ≤ 140737488355328) :
    Calls Tryd.prog 84 #[.string s, .string old, .string new, .int .i64 n] w fun e w' =>
      e = .returned (.string ⟨(Lib.replaceK old.data.toList new.data.toList (Lib.replaceNum s.data.toList old.data.toList n) s.data.toList).toArray⟩) ∧ Below w.heap.size w w' := Any.strings_Replace_some Tryd.lays154 Tryd.Builder_Extra_154 s old new n m w hs hm h1 hne hn0 hc0 hlen
open Go.RowKit Go.Lib in
theorem Tryd.strings_Replace_none (s old new : ByteArray) (n : Int) (w : World) (h : old = new ∨ n = 0) :
    Calls Tryd.prog 84 #[.string s, .string old, .string new, .int .i64 n] w fun e w' => e = .returned (.string s) ∧ w' = w := Any.strings_Replace_none Tryd.lays154 s old new n w h
open Go.RowKit Go.Lib in
theorem Tryd.strings_Replace_absent (s old new : ByteArray) (n : Int) (m : Int) (w : World) (hs : s.size < 4294967281) (hm : w.cell? ⟨1, 0, none⟩ = some (.int .i64 m)) (h1 : 1 ≤ old.size) (hne : old ≠ new) (hn0 : n ≠ 0) (hc0 : Lib.countB s old = 0) :
    Calls Tryd.prog 84 #[.string s, .string old, .string new, .int .i64 n] w fun e w' => e = .returned (.string s) ∧ w' = w := Any.strings_Replace_absent Tryd.lays154 s old new n m w hs hm h1 hne hn0 hc0
open Go.RowKit Go.Lib in
theorem Tryd.strings_Replace (s old new : ByteArray) (n : Int) (m : Int) (w : World) (hs : s.size < 4294967281) (hm : w.cell? ⟨1, 0, none⟩ = some (.int .i64 m)) (h1 : 1 ≤ old.size) (hlen : s.size + Lib.countB s old * new.size ≤ 140737488355328) :
    Calls Tryd.prog 84 #[.string s, .string old, .string new, .int .i64 n] w fun e w' =>
      e = .returned (.string ⟨(Lib.replace s.data.toList old.data.toList new.data.toList n).toArray⟩) ∧ Below w.heap.size w w' := Any.strings_Replace Tryd.lays154 Tryd.Builder_Extra_154 s old new n m w hs hm h1 hlen
def Tryd.lays155_ren : Go.Shelf.Ren := ⟨fun | 155 => 43 | 154 => 84 | 138 => 42 | 165 => 78 | 143 => 81 | 166 => 61 | 197 => 106 | 169 => 62 | 195 => 82 | 218 => 83 | 240 => 92 | 241 => 102 | 219 => 105 | 260 => 121 | 276 => 109 | 277 => 116 | 217 => 117 | 225 => 118 | 224 => 119 | 267 => 120 | 266 => 128 | 314 => 129 | n => n, fun | 9 => 9 | 3 => 3 | 4 => 4 | 72 => 84 | 0 => 0 | 76 => 87 | 105 => 133 | 21 => 21 | 5 => 5 | 70 => 81 | 20 => 20 | 37 => 82 | 75 => 86 | 127 => 115 | 164 => 136 | 46 => 104 | 119 => 146 | 139 => 149 | 138 => 148 | 146 => 128 | 51 => 127 | 80 => 89 | n => n, fun | 1 => 1 | 3 => 2 | 4 => 3 | n => n⟩
theorem Tryd.lays155 : Go.Proofs.Lays.n155 Tryd.prog Tryd.lays155_ren := {
  mixed := by kernel_rfl
  f138 := Tryd.func42.trans (congrArg some (by kernel_rfl))
  f143 := Tryd.func81.trans (congrArg some (by kernel_rfl))
  f154 := Tryd.func84.trans (congrArg some (by kernel_rfl))
  f155 := Tryd.func43.trans (congrArg some (by kernel_rfl))
  f165 := Tryd.func78.trans (congrArg some (by kernel_rfl))
  f166 := Tryd.func61.trans (congrArg some (by kernel_rfl))
  f169 := Tryd.func62.trans (congrArg some (by kernel_rfl))
  f195 := Tryd.func82.trans (congrArg some (by kernel_rfl))
  f197 := Tryd.func106.trans (congrArg some (by kernel_rfl))
  f217 := Tryd.func117.trans (congrArg some (by kernel_rfl))
  f218 := Tryd.func83.trans (congrArg some (by kernel_rfl))
  f219 := Tryd.func105.trans (congrArg some (by kernel_rfl))
  f224 := Tryd.func119.trans (congrArg some (by kernel_rfl))
  f225 := Tryd.func118.trans (congrArg some (by kernel_rfl))
  f240 := Tryd.func92.trans (congrArg some (by kernel_rfl))
  f241 := Tryd.func102.trans (congrArg some (by kernel_rfl))
  f260 := Tryd.func121.trans (congrArg some (by kernel_rfl))
  f266 := Tryd.func128.trans (congrArg some (by kernel_rfl))
  f267 := Tryd.func120.trans (congrArg some (by kernel_rfl))
  f276 := Tryd.func109.trans (congrArg some (by kernel_rfl))
  f277 := Tryd.func116.trans (congrArg some (by kernel_rfl))
  f314 := Tryd.func129.trans (congrArg some (by kernel_rfl))
  t0 := Tryd.underlying0
  a0 := Tryd.isAgg0
  z0 := Tryd.sizeOf0
  v0 := Tryd.zeroValue0
  t3 := Tryd.underlying3
  a3 := Tryd.isAgg3
  z3 := Tryd.sizeOf3
  v3 := Tryd.zeroValue3
  t4 := Tryd.underlying4
  a4 := Tryd.isAgg4
  z4 := Tryd.sizeOf4
  v4 := Tryd.zeroValue4
  t5 := Tryd.underlying5
  a5 := Tryd.isAgg5
  z5 := Tryd.sizeOf5
  v5 := Tryd.zeroValue5
  t9 := Tryd.underlying9
  a9 := Tryd.isAgg9
  z9 := Tryd.sizeOf9
  v9 := Tryd.zeroValue9
  t20 := Tryd.underlying20
  a20 := Tryd.isAgg20
  z20 := Tryd.sizeOf20
  v20 := Tryd.zeroValue20
  t21 := Tryd.underlying21
  a21 := Tryd.isAgg21
  z21 := Tryd.sizeOf21
  v21 := Tryd.zeroValue21
  t37 := Tryd.underlying82
  a37 := Tryd.isAgg82
  z37 := Tryd.sizeOf82
  v37 := Tryd.zeroValue82
  t46 := Tryd.underlying104
  a46 := Tryd.isAgg104
  z46 := Tryd.sizeOf104
  v46 := Tryd.zeroValue104
  t51 := Tryd.underlying127
  a51 := Tryd.isAgg127
  z51 := Tryd.sizeOf127
  v51 := Tryd.zeroValue127
  t70 := Tryd.underlying81
  a70 := Tryd.isAgg81
  z70 := Tryd.sizeOf81
  v70 := Tryd.zeroValue81
  t72 := Tryd.underlying84
  a72 := Tryd.isAgg84
  z72 := Tryd.sizeOf84
  v72 := Tryd.zeroValue84
  t75 := Tryd.underlying86
  a75 := Tryd.isAgg86
  z75 := Tryd.sizeOf86
  v75 := Tryd.zeroValue86
  t76 := Tryd.underlying87
  a76 := Tryd.isAgg87
  z76 := Tryd.sizeOf87
  v76 := Tryd.zeroValue87
  t105 := Tryd.underlying133
  a105 := Tryd.isAgg133
  z105 := Tryd.sizeOf133
  v105 := Tryd.zeroValue133
  t119 := Tryd.underlying146
  a119 := Tryd.isAgg146
  z119 := Tryd.sizeOf146
  t127 := Tryd.underlying115
  a127 := Tryd.isAgg115
  z127 := Tryd.sizeOf115
  v127 := Tryd.zeroValue115
  t138 := Tryd.underlying148
  a138 := Tryd.isAgg148
  z138 := Tryd.sizeOf148
  v138 := Tryd.zeroValue148
  t139 := Tryd.underlying149
  a139 := Tryd.isAgg149
  z139 := Tryd.sizeOf149
  v139 := Tryd.zeroValue149
  t146 := Tryd.underlying128
  a146 := Tryd.isAgg128
  z146 := Tryd.sizeOf128
  v146 := Tryd.zeroValue128
  t164 := Tryd.underlying136
  a164 := Tryd.isAgg136
  z164 := Tryd.sizeOf136
  v164 := Tryd.zeroValue136
  g1 := by kernel_rfl
  g3 := by kernel_rfl
  g4 := by kernel_rfl }
theorem Tryd.Builder_Extra_155 : Builder.Extra Tryd.prog Tryd.lays155_ren := {
  sizeBuilder := by kernel_rfl
  liesBuilder := by kernel_rfl
  t5 := Tryd.underlying5
  a5 := Tryd.isAgg5
  z5 := Tryd.sizeOf5
  v5 := Tryd.zeroValue5
  infoByte := by kernel_rfl
  cellsByte := by kernel_rfl
  sizeByte := by kernel_rfl
  neB5 := by decide }
open Go.RowKit Go.Lib in
theorem Tryd.strings_ReplaceAll (s old new : ByteArray) (m : Int) (w : World) (hs : s.size < 4294967281) (hm : w.cell? ⟨1, 0, none⟩ = some (.int .i64 m)) (h1 : 1 ≤ old.size) (hlen : s.size + Lib.countB s old * new.size ≤ 140737488355328) :
    Calls Tryd.prog 43 #[.string s, .string old, .string new] w fun e w' =>
      e = .returned (.string ⟨(Lib.replaceAll s.data.toList old.data.toList new.data.toList).toArray⟩) ∧ Below w.heap.size w w' := Any.strings_ReplaceAll Tryd.lays155 Tryd.Builder_Extra_155 s old new m w hs hm h1 hlen
def Tryd.laysM154_ren : Go.Shelf.Ren := ⟨fun | 154 => 84 | 138 => 42 | 165 => 78 | 143 => 81 | 166 => 61 | 197 => 106 | 169 => 62 | 195 => 82 | 218 => 83 | 240 => 92 | 241 => 102 | 219 => 105 | 260 => 121 | 276 => 109 | 277 => 116 | 217 => 117 | 225 => 118 | 224 => 119 | 267 => 120 | 266 => 128 | 314 => 129 | n => n, fun | 9 => 9 | 3 => 3 | 4 => 4 | 72 => 84 | 0 => 0 | 76 => 87 | 105 => 133 | 21 => 21 | 5 => 5 | 70 => 81 | 20 => 20 | 37 => 82 | 75 => 86 | 127 => 115 | 164 => 136 | 46 => 104 | 119 => 146 | 139 => 149 | 138 => 148 | 146 => 128 | 51 => 127 | 80 => 89 | n => n, fun | 1 => 1 | 3 => 2 | 4 => 3 | n => n⟩
theorem Tryd.laysM154 : Go.Proofs.LaysM.n154 Tryd.prog Tryd.laysM154_ren := {
  mixed := by kernel_rfl
  f138 := Tryd.func42.trans (congrArg some (by kernel_rfl))
  f143 := Tryd.func81.trans (congrArg some (by kernel_rfl))
  f154 := Tryd.func84.trans (congrArg some (by kernel_rfl))
  f165 := Tryd.func78.trans (congrArg some (by kernel_rfl))
  f166 := Tryd.func61.trans (congrArg some (by kernel_rfl))
  f169 := Tryd.func62.trans (congrArg some (by kernel_rfl))
  f195 := Tryd.func82.trans (congrArg some (by kernel_rfl))
  f197 := Tryd.func106.trans (congrArg some (by kernel_rfl))
  f217 := Tryd.func117.trans (congrArg some (by kernel_rfl))
  f218 := Tryd.func83.trans (congrArg some (by kernel_rfl))
  f219 := Tryd.func105.trans (congrArg some (by kernel_rfl))
  f224 := Tryd.func119.trans (congrArg some (by kernel_rfl))
  f225 := Tryd.func118.trans (congrArg some (by kernel_rfl))
  f240 := Tryd.func92.trans (congrArg some (by kernel_rfl))
  f241 := Tryd.func102.trans (congrArg some (by kernel_rfl))
  f260 := Tryd.func121.trans (congrArg some (by kernel_rfl))
  f266 := Tryd.func128.trans (congrArg some (by kernel_rfl))
  f267 := Tryd.func120.trans (congrArg some (by kernel_rfl))
  f276 := Tryd.func109.trans (congrArg some (by kernel_rfl))
  f277 := Tryd.func116.trans (congrArg some (by kernel_rfl))
  f314 := Tryd.func129.trans (congrArg some (by kernel_rfl))
  t0 := Tryd.underlying0
  a0 := Tryd.isAgg0
  z0 := Tryd.sizeOf0
  v0 := Tryd.zeroValue0
  t3 := Tryd.underlying3
  a3 := Tryd.isAgg3
  z3 := Tryd.sizeOf3
  v3 := Tryd.zeroValue3
  t4 := Tryd.underlying4
  a4 := Tryd.isAgg4
  z4 := Tryd.sizeOf4
  v4 := Tryd.zeroValue4
  t5 := Tryd.underlying5
  a5 := Tryd.isAgg5
  z5 := Tryd.sizeOf5
  v5 := Tryd.zeroValue5
  t9 := Tryd.underlying9
  a9 := Tryd.isAgg9
  z9 := Tryd.sizeOf9
  v9 := Tryd.zeroValue9
  t20 := Tryd.underlying20
  a20 := Tryd.isAgg20
  z20 := Tryd.sizeOf20
  v20 := Tryd.zeroValue20
  t21 := Tryd.underlying21
  a21 := Tryd.isAgg21
  z21 := Tryd.sizeOf21
  v21 := Tryd.zeroValue21
  t37 := Tryd.underlying82
  a37 := Tryd.isAgg82
  z37 := Tryd.sizeOf82
  v37 := Tryd.zeroValue82
  t46 := Tryd.underlying104
  a46 := Tryd.isAgg104
  z46 := Tryd.sizeOf104
  v46 := Tryd.zeroValue104
  t51 := Tryd.underlying127
  a51 := Tryd.isAgg127
  z51 := Tryd.sizeOf127
  v51 := Tryd.zeroValue127
  t70 := Tryd.underlying81
  a70 := Tryd.isAgg81
  z70 := Tryd.sizeOf81
  v70 := Tryd.zeroValue81
  t72 := Tryd.underlying84
  a72 := Tryd.isAgg84
  z72 := Tryd.sizeOf84
  v72 := Tryd.zeroValue84
  t75 := Tryd.underlying86
  a75 := Tryd.isAgg86
  z75 := Tryd.sizeOf86
  v75 := Tryd.zeroValue86
  t76 := Tryd.underlying87
  a76 := Tryd.isAgg87
  z76 := Tryd.sizeOf87
  v76 := Tryd.zeroValue87
  t105 := Tryd.underlying133
  a105 := Tryd.isAgg133
  z105 := Tryd.sizeOf133
  v105 := Tryd.zeroValue133
  t119 := Tryd.underlying146
  a119 := Tryd.isAgg146
  z119 := Tryd.sizeOf146
  t127 := Tryd.underlying115
  a127 := Tryd.isAgg115
  z127 := Tryd.sizeOf115
  v127 := Tryd.zeroValue115
  t138 := Tryd.underlying148
  a138 := Tryd.isAgg148
  z138 := Tryd.sizeOf148
  v138 := Tryd.zeroValue148
  t139 := Tryd.underlying149
  a139 := Tryd.isAgg149
  z139 := Tryd.sizeOf149
  v139 := Tryd.zeroValue149
  t146 := Tryd.underlying128
  a146 := Tryd.isAgg128
  z146 := Tryd.sizeOf128
  v146 := Tryd.zeroValue128
  t164 := Tryd.underlying136
  a164 := Tryd.isAgg136
  z164 := Tryd.sizeOf136
  v164 := Tryd.zeroValue136
  g1 := by kernel_rfl
  g3 := by kernel_rfl
  g4 := by kernel_rfl
  t80 := Tryd.underlying89
  a80 := Tryd.isAgg89
  z80 := Tryd.sizeOf89
  v80 := Tryd.zeroValue89
  i0 := by kernel_rfl
  i3 := by kernel_rfl
  i4 := by kernel_rfl
  i5 := by kernel_rfl
  i9 := by kernel_rfl
  i20 := by kernel_rfl
  i21 := by kernel_rfl
  i37 := by kernel_rfl
  i46 := by kernel_rfl
  i51 := by kernel_rfl
  i70 := by kernel_rfl
  i72 := by kernel_rfl
  i75 := by kernel_rfl
  i76 := by kernel_rfl
  i80 := by kernel_rfl
  i105 := by kernel_rfl
  i127 := by kernel_rfl
  i138 := by kernel_rfl
  i139 := by kernel_rfl
  i146 := by kernel_rfl
  i164 := by kernel_rfl
  m1 := by kernel_rfl
  s1_3 := fun w h => Go.Proofs.cell_of_shapedOpen_int (zero := #[.int .i64 0]) (t := 3) h (of_decide_eq_true (by kernel_rfl)) (by kernel_rfl) rfl (by kernel_rfl) (by kernel_rfl) Tryd.underlying3
  m3 := by kernel_rfl
  m4 := by kernel_rfl }
theorem Tryd.Builder_Extra_M154 : Builder.Extra Tryd.prog Tryd.laysM154_ren := {
  sizeBuilder := by kernel_rfl
  liesBuilder := by kernel_rfl
  t5 := Tryd.underlying5
  a5 := Tryd.isAgg5
  z5 := Tryd.sizeOf5
  v5 := Tryd.zeroValue5
  infoByte := by kernel_rfl
  cellsByte := by kernel_rfl
  sizeByte := by kernel_rfl
  neB5 := by decide }
open Go.RowKit Go.Lib in
theorem Tryd.strings_Replace_shaped (s old new : ByteArray) (n : Int) (w : World) (h : w.ShapedOpen Tryd.prog) (hs : s.size < 4294967281) (h1 : 1 ≤ old.size) (hlen : s.size + Lib.countB s old * new.size ≤ 140737488355328) :
    Calls Tryd.prog 84 #[.string s, .string old, .string new, .int .i64 n] w fun e w' =>
      e = .returned (.string ⟨(Lib.replace s.data.toList old.data.toList new.data.toList n).toArray⟩) ∧ Below w.heap.size w w' := Any.strings_Replace_shaped Tryd.laysM154 Tryd.Builder_Extra_M154 s old new n w h hs h1 hlen
def Tryd.laysM155_ren : Go.Shelf.Ren := ⟨fun | 155 => 43 | 154 => 84 | 138 => 42 | 165 => 78 | 143 => 81 | 166 => 61 | 197 => 106 | 169 => 62 | 195 => 82 | 218 => 83 | 240 => 92 | 241 => 102 | 219 => 105 | 260 => 121 | 276 => 109 | 277 => 116 | 217 => 117 | 225 => 118 | 224 => 119 | 267 => 120 | 266 => 128 | 314 => 129 | n => n, fun | 9 => 9 | 3 => 3 | 4 => 4 | 72 => 84 | 0 => 0 | 76 => 87 | 105 => 133 | 21 => 21 | 5 => 5 | 70 => 81 | 20 => 20 | 37 => 82 | 75 => 86 | 127 => 115 | 164 => 136 | 46 => 104 | 119 => 146 | 139 => 149 | 138 => 148 | 146 => 128 | 51 => 127 | 80 => 89 | n => n, fun | 1 => 1 | 3 => 2 | 4 => 3 | n => n⟩
theorem Tryd.laysM155 : Go.Proofs.LaysM.n155 Tryd.prog Tryd.laysM155_ren := {
  mixed := by kernel_rfl
  f138 := Tryd.func42.trans (congrArg some (by kernel_rfl))
  f143 := Tryd.func81.trans (congrArg some (by kernel_rfl))
  f154 := Tryd.func84.trans (congrArg some (by kernel_rfl))
  f155 := Tryd.func43.trans (congrArg some (by kernel_rfl))
  f165 := Tryd.func78.trans (congrArg some (by kernel_rfl))
  f166 := Tryd.func61.trans (congrArg some (by kernel_rfl))
  f169 := Tryd.func62.trans (congrArg some (by kernel_rfl))
  f195 := Tryd.func82.trans (congrArg some (by kernel_rfl))
  f197 := Tryd.func106.trans (congrArg some (by kernel_rfl))
  f217 := Tryd.func117.trans (congrArg some (by kernel_rfl))
  f218 := Tryd.func83.trans (congrArg some (by kernel_rfl))
  f219 := Tryd.func105.trans (congrArg some (by kernel_rfl))
  f224 := Tryd.func119.trans (congrArg some (by kernel_rfl))
  f225 := Tryd.func118.trans (congrArg some (by kernel_rfl))
  f240 := Tryd.func92.trans (congrArg some (by kernel_rfl))
  f241 := Tryd.func102.trans (congrArg some (by kernel_rfl))
  f260 := Tryd.func121.trans (congrArg some (by kernel_rfl))
  f266 := Tryd.func128.trans (congrArg some (by kernel_rfl))
  f267 := Tryd.func120.trans (congrArg some (by kernel_rfl))
  f276 := Tryd.func109.trans (congrArg some (by kernel_rfl))
  f277 := Tryd.func116.trans (congrArg some (by kernel_rfl))
  f314 := Tryd.func129.trans (congrArg some (by kernel_rfl))
  t0 := Tryd.underlying0
  a0 := Tryd.isAgg0
  z0 := Tryd.sizeOf0
  v0 := Tryd.zeroValue0
  t3 := Tryd.underlying3
  a3 := Tryd.isAgg3
  z3 := Tryd.sizeOf3
  v3 := Tryd.zeroValue3
  t4 := Tryd.underlying4
  a4 := Tryd.isAgg4
  z4 := Tryd.sizeOf4
  v4 := Tryd.zeroValue4
  t5 := Tryd.underlying5
  a5 := Tryd.isAgg5
  z5 := Tryd.sizeOf5
  v5 := Tryd.zeroValue5
  t9 := Tryd.underlying9
  a9 := Tryd.isAgg9
  z9 := Tryd.sizeOf9
  v9 := Tryd.zeroValue9
  t20 := Tryd.underlying20
  a20 := Tryd.isAgg20
  z20 := Tryd.sizeOf20
  v20 := Tryd.zeroValue20
  t21 := Tryd.underlying21
  a21 := Tryd.isAgg21
  z21 := Tryd.sizeOf21
  v21 := Tryd.zeroValue21
  t37 := Tryd.underlying82
  a37 := Tryd.isAgg82
  z37 := Tryd.sizeOf82
  v37 := Tryd.zeroValue82
  t46 := Tryd.underlying104
  a46 := Tryd.isAgg104
  z46 := Tryd.sizeOf104
  v46 := Tryd.zeroValue104
  t51 := Tryd.underlying127
  a51 := Tryd.isAgg127
  z51 := Tryd.sizeOf127
  v51 := Tryd.zeroValue127
  t70 := Tryd.underlying81
  a70 := Tryd.isAgg81
  z70 := Tryd.sizeOf81
  v70 := Tryd.zeroValue81
  t72 := Tryd.underlying84
  a72 := Tryd.isAgg84
  z72 := Tryd.sizeOf84
  v72 := Tryd.zeroValue84
  t75 := Tryd.underlying86
  a75 := Tryd.isAgg86
  z75 := Tryd.sizeOf86
  v75 := Tryd.zeroValue86
  t76 := Tryd.underlying87
  a76 := Tryd.isAgg87
  z76 := Tryd.sizeOf87
  v76 := Tryd.zeroValue87
  t105 := Tryd.underlying133
  a105 := Tryd.isAgg133
  z105 := Tryd.sizeOf133
  v105 := Tryd.zeroValue133
  t119 := Tryd.underlying146
  a119 := Tryd.isAgg146
  z119 := Tryd.sizeOf146
  t127 := Tryd.underlying115
  a127 := Tryd.isAgg115
  z127 := Tryd.sizeOf115
  v127 := Tryd.zeroValue115
  t138 := Tryd.underlying148
  a138 := Tryd.isAgg148
  z138 := Tryd.sizeOf148
  v138 := Tryd.zeroValue148
  t139 := Tryd.underlying149
  a139 := Tryd.isAgg149
  z139 := Tryd.sizeOf149
  v139 := Tryd.zeroValue149
  t146 := Tryd.underlying128
  a146 := Tryd.isAgg128
  z146 := Tryd.sizeOf128
  v146 := Tryd.zeroValue128
  t164 := Tryd.underlying136
  a164 := Tryd.isAgg136
  z164 := Tryd.sizeOf136
  v164 := Tryd.zeroValue136
  g1 := by kernel_rfl
  g3 := by kernel_rfl
  g4 := by kernel_rfl
  t80 := Tryd.underlying89
  a80 := Tryd.isAgg89
  z80 := Tryd.sizeOf89
  v80 := Tryd.zeroValue89
  i0 := by kernel_rfl
  i3 := by kernel_rfl
  i4 := by kernel_rfl
  i5 := by kernel_rfl
  i9 := by kernel_rfl
  i20 := by kernel_rfl
  i21 := by kernel_rfl
  i37 := by kernel_rfl
  i46 := by kernel_rfl
  i51 := by kernel_rfl
  i70 := by kernel_rfl
  i72 := by kernel_rfl
  i75 := by kernel_rfl
  i76 := by kernel_rfl
  i80 := by kernel_rfl
  i105 := by kernel_rfl
  i127 := by kernel_rfl
  i138 := by kernel_rfl
  i139 := by kernel_rfl
  i146 := by kernel_rfl
  i164 := by kernel_rfl
  m1 := by kernel_rfl
  s1_3 := fun w h => Go.Proofs.cell_of_shapedOpen_int (zero := #[.int .i64 0]) (t := 3) h (of_decide_eq_true (by kernel_rfl)) (by kernel_rfl) rfl (by kernel_rfl) (by kernel_rfl) Tryd.underlying3
  m3 := by kernel_rfl
  m4 := by kernel_rfl }
theorem Tryd.Builder_Extra_M155 : Builder.Extra Tryd.prog Tryd.laysM155_ren := {
  sizeBuilder := by kernel_rfl
  liesBuilder := by kernel_rfl
  t5 := Tryd.underlying5
  a5 := Tryd.isAgg5
  z5 := Tryd.sizeOf5
  v5 := Tryd.zeroValue5
  infoByte := by kernel_rfl
  cellsByte := by kernel_rfl
  sizeByte := by kernel_rfl
  neB5 := by decide }
open Go.RowKit Go.Lib in
theorem Tryd.strings_ReplaceAll_shaped (s old new : ByteArray) (w : World) (h : w.ShapedOpen Tryd.prog) (hs : s.size < 4294967281) (h1 : 1 ≤ old.size) (hlen : s.size + Lib.countB s old * new.size ≤ 140737488355328) :
    Calls Tryd.prog 43 #[.string s, .string old, .string new] w fun e w' =>
      e = .returned (.string ⟨(Lib.replaceAll s.data.toList old.data.toList new.data.toList).toArray⟩) ∧ Below w.heap.size w w' := Any.strings_ReplaceAll_shaped Tryd.laysM155 Tryd.Builder_Extra_M155 s old new w h hs h1 hlen
def Tryd.lays197_ren : Go.Shelf.Ren := ⟨fun | 197 => 106 | 260 => 121 | n => n, fun | 9 => 9 | 21 => 21 | 3 => 3 | 4 => 4 | 5 => 5 | 105 => 133 | 119 => 146 | 0 => 0 | 46 => 104 | 139 => 149 | 138 => 148 | n => n, fun | 3 => 2 | 4 => 3 | n => n⟩
theorem Tryd.lays197 : Go.Proofs.Lays.n197 Tryd.prog Tryd.lays197_ren := {
  mixed := by kernel_rfl
  f197 := Tryd.func106.trans (congrArg some (by kernel_rfl))
  f260 := Tryd.func121.trans (congrArg some (by kernel_rfl))
  t0 := Tryd.underlying0
  a0 := Tryd.isAgg0
  z0 := Tryd.sizeOf0
  v0 := Tryd.zeroValue0
  t3 := Tryd.underlying3
  a3 := Tryd.isAgg3
  z3 := Tryd.sizeOf3
  v3 := Tryd.zeroValue3
  t4 := Tryd.underlying4
  a4 := Tryd.isAgg4
  z4 := Tryd.sizeOf4
  v4 := Tryd.zeroValue4
  t5 := Tryd.underlying5
  a5 := Tryd.isAgg5
  z5 := Tryd.sizeOf5
  v5 := Tryd.zeroValue5
  t9 := Tryd.underlying9
  a9 := Tryd.isAgg9
  z9 := Tryd.sizeOf9
  v9 := Tryd.zeroValue9
  t21 := Tryd.underlying21
  a21 := Tryd.isAgg21
  z21 := Tryd.sizeOf21
  v21 := Tryd.zeroValue21
  t46 := Tryd.underlying104
  a46 := Tryd.isAgg104
  z46 := Tryd.sizeOf104
  v46 := Tryd.zeroValue104
  t105 := Tryd.underlying133
  a105 := Tryd.isAgg133
  z105 := Tryd.sizeOf133
  v105 := Tryd.zeroValue133
  t119 := Tryd.underlying146
  a119 := Tryd.isAgg146
  z119 := Tryd.sizeOf146
  t138 := Tryd.underlying148
  a138 := Tryd.isAgg148
  z138 := Tryd.sizeOf148
  v138 := Tryd.zeroValue148
  t139 := Tryd.underlying149
  a139 := Tryd.isAgg149
  z139 := Tryd.sizeOf149
  v139 := Tryd.zeroValue149
  g3 := by kernel_rfl
  g4 := by kernel_rfl }
open Go.RowKit Go.Lib in
theorem Tryd.utf8_DecodeRuneInString_ascii (s : ByteArray) (x : UInt8) (w : World) (h0 : s.data.toList[0]? = some x) (hx : x.toNat < 128) :
    Calls Tryd.prog 106 #[.string s] w fun e w' => e = .returned (.tuple #[.int .i32 x.toNat, .int .i64 1]) ∧ w' = w := Any.utf8_DecodeRuneInString_ascii Tryd.lays197 s x w h0 hx
open Go.RowKit Go.Lib in
theorem Tryd.utf8_RuneCountInString_ascii (s : ByteArray) (w : World) (hs : s.size < 4294967281) (hascii : ∀ (j : Nat) b, s.data.toList[j]? = some b → b.toNat < 128) :
    Calls Tryd.prog 82 #[.string s] w fun e w' => e = .returned (.int .i64 s.size) ∧ w' = w.iter s s.size := Any.utf8_RuneCountInString_ascii Tryd.lays195 s w hs hascii
def Tryd.lays264_ren : Go.Shelf.Ren := ⟨fun | 264 => 104 | n => n, fun | 53 => 130 | 46 => 104 | n => n, fun | n => n⟩
theorem Tryd.lays264 : Go.Proofs.Lays.n264 Tryd.prog Tryd.lays264_ren := {
  mixed := by kernel_rfl
  f264 := Tryd.func104.trans (congrArg some (by kernel_rfl))
  t46 := Tryd.underlying104
  a46 := Tryd.isAgg104
  z46 := Tryd.sizeOf104
  v46 := Tryd.zeroValue104
  t53 := Tryd.underlying130
  a53 := Tryd.isAgg130
  z53 := Tryd.sizeOf130
  v53 := Tryd.zeroValue130 }
open Go.RowKit Go.Lib in
theorem Tryd.bits_Mul64 (x y : Nat) (hx : x < 18446744073709551616) (hy : y < 18446744073709551616) (w : World) :
    Calls Tryd.prog 104 #[.int .u64 x, .int .u64 y] w fun e w' => e = .returned (.tuple #[.int .u64 ((x * y / 18446744073709551616 : Nat) : Int), .int .u64 ((x * y % 18446744073709551616 : Nat) : Int)]) ∧ w' = w := Any.bits_Mul64 Tryd.lays264 x y hx hy w
def Tryd.lays212_ren : Go.Shelf.Ren := ⟨fun | 212 => 79 | 263 => 103 | 264 => 104 | n => n, fun | 46 => 104 | 51 => 127 | 146 => 128 | 53 => 130 | 148 => 131 | n => n, fun | n => n⟩
theorem Tryd.lays212 : Go.Proofs.Lays.n212 Tryd.prog Tryd.lays212_ren := {
  mixed := by kernel_rfl
  f212 := Tryd.func79.trans (congrArg some (by kernel_rfl))
  f263 := Tryd.func103.trans (congrArg some (by kernel_rfl))
  f264 := Tryd.func104.trans (congrArg some (by kernel_rfl))
  t46 := Tryd.underlying104
  a46 := Tryd.isAgg104
  z46 := Tryd.sizeOf104
  v46 := Tryd.zeroValue104
  t51 := Tryd.underlying127
  a51 := Tryd.isAgg127
  z51 := Tryd.sizeOf127
  v51 := Tryd.zeroValue127
  t53 := Tryd.underlying130
  a53 := Tryd.isAgg130
  z53 := Tryd.sizeOf130
  v53 := Tryd.zeroValue130
  t146 := Tryd.underlying128
  a146 := Tryd.isAgg128
  z146 := Tryd.sizeOf128
  v146 := Tryd.zeroValue128
  t148 := Tryd.underlying131
  a148 := Tryd.isAgg131
  z148 := Tryd.sizeOf131
  v148 := Tryd.zeroValue131 }
open Go.RowKit Go.Lib in
theorem Tryd.bits_Mul (x y : Nat) (hx : x < 18446744073709551616) (hy : y < 18446744073709551616) (w : World) :
    Calls Tryd.prog 79 #[.int .u64 x, .int .u64 y] w fun e w' => e = .returned (.tuple #[.int .u64 ((x * y / 18446744073709551616 : Nat) : Int), .int .u64 ((x * y % 18446744073709551616 : Nat) : Int)]) ∧ w' = w := Any.bits_Mul Tryd.lays212 x y hx hy w
def Tryd.lays105_ren : Go.Shelf.Ren := ⟨fun | 105 => 40 | 212 => 79 | 99 => 16 | 165 => 78 | 166 => 61 | 170 => 80 | 169 => 62 | 263 => 103 | 264 => 104 | 206 => 53 | 240 => 92 | 241 => 102 | 276 => 109 | 277 => 116 | n => n, fun | 9 => 9 | 3 => 3 | 4 => 4 | 20 => 20 | 0 => 0 | 46 => 104 | 109 => 105 | 5 => 5 | 72 => 84 | 76 => 87 | 51 => 127 | 146 => 128 | 53 => 130 | 148 => 131 | 70 => 81 | 37 => 82 | 75 => 86 | 127 => 115 | 164 => 136 | 80 => 89 | n => n, fun | n => n⟩
theorem Tryd.lays105 : Go.Proofs.Lays.n105 Tryd.prog Tryd.lays105_ren := {
  mixed := by kernel_rfl
  f99 := Tryd.func16.trans (congrArg some (by kernel_rfl))
  f105 := Tryd.func40.trans (congrArg some (by kernel_rfl))
  f165 := Tryd.func78.trans (congrArg some (by kernel_rfl))
  f166 := Tryd.func61.trans (congrArg some (by kernel_rfl))
  f169 := Tryd.func62.trans (congrArg some (by kernel_rfl))
  f170 := Tryd.func80.trans (congrArg some (by kernel_rfl))
  f206 := Tryd.func53.trans (congrArg some (by kernel_rfl))
  f212 := Tryd.func79.trans (congrArg some (by kernel_rfl))
  f240 := Tryd.func92.trans (congrArg some (by kernel_rfl))
  f241 := Tryd.func102.trans (congrArg some (by kernel_rfl))
  f263 := Tryd.func103.trans (congrArg some (by kernel_rfl))
  f264 := Tryd.func104.trans (congrArg some (by kernel_rfl))
  f276 := Tryd.func109.trans (congrArg some (by kernel_rfl))
  f277 := Tryd.func116.trans (congrArg some (by kernel_rfl))
  t0 := Tryd.underlying0
  a0 := Tryd.isAgg0
  z0 := Tryd.sizeOf0
  v0 := Tryd.zeroValue0
  t3 := Tryd.underlying3
  a3 := Tryd.isAgg3
  z3 := Tryd.sizeOf3
  v3 := Tryd.zeroValue3
  t4 := Tryd.underlying4
  a4 := Tryd.isAgg4
  z4 := Tryd.sizeOf4
  v4 := Tryd.zeroValue4
  t5 := Tryd.underlying5
  a5 := Tryd.isAgg5
  z5 := Tryd.sizeOf5
  v5 := Tryd.zeroValue5
  t9 := Tryd.underlying9
  a9 := Tryd.isAgg9
  z9 := Tryd.sizeOf9
  v9 := Tryd.zeroValue9
  t20 := Tryd.underlying20
  a20 := Tryd.isAgg20
  z20 := Tryd.sizeOf20
  v20 := Tryd.zeroValue20
  t37 := Tryd.underlying82
  a37 := Tryd.isAgg82
  z37 := Tryd.sizeOf82
  v37 := Tryd.zeroValue82
  t46 := Tryd.underlying104
  a46 := Tryd.isAgg104
  z46 := Tryd.sizeOf104
  v46 := Tryd.zeroValue104
  t51 := Tryd.underlying127
  a51 := Tryd.isAgg127
  z51 := Tryd.sizeOf127
  v51 := Tryd.zeroValue127
  t53 := Tryd.underlying130
  a53 := Tryd.isAgg130
  z53 := Tryd.sizeOf130
  v53 := Tryd.zeroValue130
  t70 := Tryd.underlying81
  a70 := Tryd.isAgg81
  z70 := Tryd.sizeOf81
  v70 := Tryd.zeroValue81
  t72 := Tryd.underlying84
  a72 := Tryd.isAgg84
  z72 := Tryd.sizeOf84
  v72 := Tryd.zeroValue84
  t75 := Tryd.underlying86
  a75 := Tryd.isAgg86
  z75 := Tryd.sizeOf86
  v75 := Tryd.zeroValue86
  t76 := Tryd.underlying87
  a76 := Tryd.isAgg87
  z76 := Tryd.sizeOf87
  v76 := Tryd.zeroValue87
  t109 := Tryd.underlying105
  a109 := Tryd.isAgg105
  z109 := Tryd.sizeOf105
  v109 := Tryd.zeroValue105
  t127 := Tryd.underlying115
  a127 := Tryd.isAgg115
  z127 := Tryd.sizeOf115
  v127 := Tryd.zeroValue115
  t146 := Tryd.underlying128
  a146 := Tryd.isAgg128
  z146 := Tryd.sizeOf128
  v146 := Tryd.zeroValue128
  t148 := Tryd.underlying131
  a148 := Tryd.isAgg131
  z148 := Tryd.sizeOf131
  v148 := Tryd.zeroValue131
  t164 := Tryd.underlying136
  a164 := Tryd.isAgg136
  z164 := Tryd.sizeOf136
  v164 := Tryd.zeroValue136 }
theorem Tryd.Builder_Extra_105 : Builder.Extra Tryd.prog Tryd.lays105_ren := {
  sizeBuilder := by kernel_rfl
  liesBuilder := by kernel_rfl
  t5 := Tryd.underlying5
  a5 := Tryd.isAgg5
  z5 := Tryd.sizeOf5
  v5 := Tryd.zeroValue5
  infoByte := by kernel_rfl
  cellsByte := by kernel_rfl
  sizeByte := by kernel_rfl
  neB5 := by decide }
open Go.RowKit Go.Lib in
theorem Tryd.strings_Repeat_main (s : ByteArray) (c : Nat) (w : World) (hc2 : 2 ≤ c) (hc : c ≤ 9223372036854775807) (hlen : s.size * c ≤ 140737488355328) (h0 : 0 < s.size) :
    Calls Tryd.prog 40 #[.string s, .int .i64 c] w fun e w' => e = .returned (.string ⟨(Lib.repeatL s.data.toList c).toArray⟩) ∧ Below w.heap.size w w' := Any.strings_Repeat_main Tryd.lays105 Tryd.Builder_Extra_105 s c w hc2 hc hlen h0
open Go.RowKit Go.Lib in
theorem Tryd.strings_Repeat_zero (s : ByteArray) (w : World) :
    Calls Tryd.prog 40 #[.string s, .int .i64 0] w fun e w' => e = .returned (.string ⟨#[]⟩) ∧ w' = w := Any.strings_Repeat_zero Tryd.lays105 s w
open Go.RowKit Go.Lib in
theorem Tryd.strings_Repeat_one (s : ByteArray) (w : World) :
    Calls Tryd.prog 40 #[.string s, .int .i64 1] w fun e w' => e = .returned (.string s) ∧ w' = w := Any.strings_Repeat_one Tryd.lays105 s w
open Go.RowKit Go.Lib in
theorem Tryd.strings_Repeat_empty (s : ByteArray) (c : Nat) (w : World) (hc2 : 2 ≤ c) (hc : c ≤ 9223372036854775807) (h0 : s.size = 0) :
    Calls Tryd.prog 40 #[.string s, .int .i64 c] w fun e w' => e = .returned (.string ⟨#[]⟩) ∧ w' = w := Any.strings_Repeat_empty Tryd.lays105 s c w hc2 hc h0
open Go.RowKit Go.Lib in
theorem Tryd.strings_Repeat_negative (s : ByteArray) (c : Int) (w : World) (hc : c < 0) :
    Calls Tryd.prog 40 #[.string s, .int .i64 c] w fun e w' => e = .panicked [{ v := repeatPanic Tryd.lays105_ren "strings: negative Repeat count", recovered := false }] ∧ w' = w := Any.strings_Repeat_negative Tryd.lays105 s c w hc
open Go.RowKit Go.Lib in
theorem Tryd.strings_Repeat_overflow (s : ByteArray) (c : Nat) (w : World) (hc : c ≤ 9223372036854775807) (hs : s.size ≤ 9223372036854775807) (hbig : 9223372036854775807 < s.size * c) :
    Calls Tryd.prog 40 #[.string s, .int .i64 c] w fun e w' => e = .panicked [{ v := repeatPanic Tryd.lays105_ren "strings: Repeat output length overflow", recovered := false }] ∧ w' = w := Any.strings_Repeat_overflow Tryd.lays105 s c w hc hs hbig
open Go.RowKit Go.Lib in
theorem Tryd.strings_Repeat (s : ByteArray) (c : Nat) (w : World) (hc : c ≤ 9223372036854775807) (hlen : s.size * c ≤ 140737488355328) :
    Calls Tryd.prog 40 #[.string s, .int .i64 c] w fun e w' => e = .returned (.string ⟨(Lib.repeatL s.data.toList c).toArray⟩) ∧ Below w.heap.size w w' := Any.strings_Repeat Tryd.lays105 Tryd.Builder_Extra_105 s c w hc hlen
def Tryd.lays260_ren : Go.Shelf.Ren := ⟨fun | 260 => 121 | n => n, fun | 9 => 9 | 21 => 21 | 3 => 3 | 4 => 4 | 5 => 5 | 119 => 146 | 0 => 0 | 46 => 104 | 139 => 149 | 138 => 148 | n => n, fun | 3 => 2 | 4 => 3 | n => n⟩
theorem Tryd.lays260 : Go.Proofs.Lays.n260 Tryd.prog Tryd.lays260_ren := {
  mixed := by kernel_rfl
  f260 := Tryd.func121.trans (congrArg some (by kernel_rfl))
  t0 := Tryd.underlying0
  a0 := Tryd.isAgg0
  z0 := Tryd.sizeOf0
  v0 := Tryd.zeroValue0
  t3 := Tryd.underlying3
  a3 := Tryd.isAgg3
  z3 := Tryd.sizeOf3
  v3 := Tryd.zeroValue3
  t4 := Tryd.underlying4
  a4 := Tryd.isAgg4
  z4 := Tryd.sizeOf4
  v4 := Tryd.zeroValue4
  t5 := Tryd.underlying5
  a5 := Tryd.isAgg5
  z5 := Tryd.sizeOf5
  v5 := Tryd.zeroValue5
  t9 := Tryd.underlying9
  a9 := Tryd.isAgg9
  z9 := Tryd.sizeOf9
  v9 := Tryd.zeroValue9
  t21 := Tryd.underlying21
  a21 := Tryd.isAgg21
  z21 := Tryd.sizeOf21
  v21 := Tryd.zeroValue21
  t46 := Tryd.underlying104
  a46 := Tryd.isAgg104
  z46 := Tryd.sizeOf104
  v46 := Tryd.zeroValue104
  t119 := Tryd.underlying146
  a119 := Tryd.isAgg146
  z119 := Tryd.sizeOf146
  t138 := Tryd.underlying148
  a138 := Tryd.isAgg148
  z138 := Tryd.sizeOf148
  v138 := Tryd.zeroValue148
  t139 := Tryd.underlying149
  a139 := Tryd.isAgg149
  z139 := Tryd.sizeOf149
  v139 := Tryd.zeroValue149
  g3 := by kernel_rfl
  g4 := by kernel_rfl }
open Go.RowKit Go.Lib in
theorem Tryd.utf8_decodeRuneInStringSlow (s : ByteArray) (w : World) (hT : Lib.Utf8Tabs 2 3 w) :
    Calls Tryd.prog 121 #[.string s] w fun e w' => e = .returned (.tuple #[.int .i32 (Lib.decodeGo s).1, .int .i64 (Lib.decodeGo s).2]) ∧ Below w.heap.size w w' := Any.utf8_decodeRuneInStringSlow Tryd.lays260 s w hT
open Go.RowKit Go.Lib in
theorem Tryd.utf8_DecodeRuneInString (s : ByteArray) (w : World) (hT : Lib.Utf8Tabs 2 3 w) :
    Calls Tryd.prog 106 #[.string s] w fun e w' => e = .returned (.tuple #[.int .i32 (Lib.decodeGo s).1, .int .i64 (Lib.decodeGo s).2]) ∧ Below w.heap.size w w' := Any.utf8_DecodeRuneInString Tryd.lays197 s w hT
def Tryd.lays109_ren : Go.Shelf.Ren := ⟨fun | 109 => 65 | n => n, fun | 31 => 38 | 9 => 9 | 3 => 3 | 0 => 0 | 4 => 4 | n => n, fun | n => n⟩
theorem Tryd.lays109 : Go.Proofs.Lays.n109 Tryd.prog Tryd.lays109_ren := {
  mixed := by kernel_rfl
  f109 := Tryd.func65.trans (congrArg some (by kernel_rfl))
  t0 := Tryd.underlying0
  a0 := Tryd.isAgg0
  z0 := Tryd.sizeOf0
  v0 := Tryd.zeroValue0
  t3 := Tryd.underlying3
  a3 := Tryd.isAgg3
  z3 := Tryd.sizeOf3
  v3 := Tryd.zeroValue3
  t4 := Tryd.underlying4
  a4 := Tryd.isAgg4
  z4 := Tryd.sizeOf4
  v4 := Tryd.zeroValue4
  t9 := Tryd.underlying9
  a9 := Tryd.isAgg9
  z9 := Tryd.sizeOf9
  v9 := Tryd.zeroValue9
  t31 := Tryd.underlying38
  a31 := Tryd.isAgg38
  z31 := Tryd.sizeOf38
  v31 := Tryd.zeroValue38 }
open Go.Lib in
theorem Tryd.slices_Index_string (b off n c : Nat) (zs : List ByteArray) (x : ByteArray) (w : World) (hz : n ≤ zs.length) (hbig : n ≤ 9223372036854775807) (hc : ∀ j, j < zs.length → w.cell? ⟨b, off + j, none⟩ = some (.string (zs.getD j ByteArray.empty))) :
    Calls Tryd.prog 65 #[.slice (some ⟨b, off, none⟩) n c, .string x] w fun e w' => e = .returned (.int .i64 (Lib.idxOfS (zs.take n) x)) ∧ w' = w := Any.slices_Index_string Tryd.lays109 b off n c zs x w hz hbig hc
open Go.Lib in
theorem Tryd.slices_Index_string_empty (a : Option Addr) (c : Nat) (x : ByteArray) (w : World) :
    Calls Tryd.prog 65 #[.slice a 0 c, .string x] w fun e w' => e = .returned (.int .i64 (Lib.idxOfS [] x)) ∧ w' = w := Any.slices_Index_string_empty Tryd.lays109 a c x w
def Tryd.lays110_ren : Go.Shelf.Ren := ⟨fun | 110 => 28 | 109 => 65 | n => n, fun | 31 => 38 | 9 => 9 | 4 => 4 | 3 => 3 | 0 => 0 | n => n, fun | n => n⟩
theorem Tryd.lays110 : Go.Proofs.Lays.n110 Tryd.prog Tryd.lays110_ren := {
  mixed := by kernel_rfl
  f109 := Tryd.func65.trans (congrArg some (by kernel_rfl))
  f110 := Tryd.func28.trans (congrArg some (by kernel_rfl))
  t0 := Tryd.underlying0
  a0 := Tryd.isAgg0
  z0 := Tryd.sizeOf0
  v0 := Tryd.zeroValue0
  t3 := Tryd.underlying3
  a3 := Tryd.isAgg3
  z3 := Tryd.sizeOf3
  v3 := Tryd.zeroValue3
  t4 := Tryd.underlying4
  a4 := Tryd.isAgg4
  z4 := Tryd.sizeOf4
  v4 := Tryd.zeroValue4
  t9 := Tryd.underlying9
  a9 := Tryd.isAgg9
  z9 := Tryd.sizeOf9
  v9 := Tryd.zeroValue9
  t31 := Tryd.underlying38
  a31 := Tryd.isAgg38
  z31 := Tryd.sizeOf38
  v31 := Tryd.zeroValue38 }
open Go.Lib in
theorem Tryd.slices_Contains_string (b off n c : Nat) (zs : List ByteArray) (x : ByteArray) (w : World) (hz : n ≤ zs.length) (hbig : n ≤ 9223372036854775807) (hc : ∀ j, j < zs.length → w.cell? ⟨b, off + j, none⟩ = some (.string (zs.getD j ByteArray.empty))) :
    Calls Tryd.prog 28 #[.slice (some ⟨b, off, none⟩) n c, .string x] w fun e w' => e = .returned (.bool (Lib.containsS (zs.take n) x)) ∧ w' = w := Any.slices_Contains_string Tryd.lays110 b off n c zs x w hz hbig hc
open Go.Lib in
theorem Tryd.slices_Contains_string_empty (a : Option Addr) (c : Nat) (x : ByteArray) (w : World) :
    Calls Tryd.prog 28 #[.slice a 0 c, .string x] w fun e w' => e = .returned (.bool false) ∧ w' = w := Any.slices_Contains_string_empty Tryd.lays110 a c x w
end Go.Proofs
