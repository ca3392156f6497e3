/- The contracts of the library's functions, laid by program at this translation. -/
import Derived.Shelf.Strings.Builder1
import Derived.Shelf.Strings.Builder2
import Derived.Shelf.Small.Strs
import Derived.Shelf.Small.Wraps
import Derived.Shelf.Strings.BuilderF
import Derived.Shelf.Strings.BuilderK
import Derived.Shelf.Utf8.RuneCount
import Derived.Shelf.Strings.Builder2Cap
import Derived.Shelf.Strconv.Atoi
import Derived.Shelf.Strconv.Itoa0
import Derived.Shelf.Strconv.Itoa1
import Derived.Shelf.LaysM
import Derived.Shelf.Strconv.Itoa2
import Derived.Shelf.Strconv.Itoa3
import Derived.Shelf.Strconv.AtoiErrFast
import Derived.Shelf.Strconv.ParseIntEmpty
import Derived.Shelf.Strconv.AtoiFail
import Derived.Shelf.Strconv.Clone
import Derived.Shelf.Strconv.SyntaxError
import Derived.Shelf.LaysC
import Derived.Shelf.Strconv.ToError
import Derived.Shelf.Strconv.AtoiErr
import Derived.Shelf.Strconv.ErrVar
import Derived.Shelf.Strconv.Lower
import Derived.Shelf.Strconv.ParseUint10
import Derived.Shelf.Strconv.ParseUint10Empty
import Derived.Shelf.Strconv.ParseUint10Any
import Derived.Shelf.Strconv.ParseInt10
import Derived.Shelf.Strconv.AtoiLong
import Derived.Shelf.Strconv.AtoiInnerAll
import Derived.Shelf.Strconv.RangeError
import Derived.Shelf.Strconv.ToErrorRange
import Derived.Shelf.Strconv.AtoiAll
import Derived.Shelf.Strconv.ErrVarAll
import Derived.Shelf.Strconv.ParseUintEmpty
import Derived.Shelf.Strconv.ParseUint10b64
import Derived.Shelf.Strconv.ParseUint10b32
import Derived.Shelf.Strconv.ParseUint10b16
import Derived.Shelf.Strconv.ParseUint10b8
import Derived.Shelf.Strconv.ParseUint10At
import Derived.Shelf.Strconv.ParseInt10At64
import Derived.Shelf.Strconv.ParseInt10At32
import Derived.Shelf.Strconv.ParseInt10At16
import Derived.Shelf.Strconv.ParseInt10At8
import Derived.Shelf.Strconv.ParseInt10All
import Derived.Shelf.Strings.Search1
import Derived.Shelf.Strings.Search2
import Derived.Shelf.Strings.Search3
import Derived.Shelf.Strings.Count
import Derived.Shelf.Strings.Shaped
import Derived.Shelf.Strings.Prefix
import Derived.Shelf.Strings.Split
import Derived.Shelf.Strings.Replace
import Derived.Shelf.Strings.SplitShaped
import Derived.Shelf.Unicode.Decode
import Derived.Shelf.Strings.RuneCount
import Derived.Shelf.Bits.Mul64
import Derived.Shelf.Unicode.DecodeSlow
import Derived.Shelf.Unicode.DecodeAny
import Derived.Shelf.Strings.BuilderCap
import Derived.Shelf.Slices.Turned
import Derived.Shelf.Slices.Equal
import Derived.Ground.Names2Prog
import Derived.Shelf.Slices.Clone
import Derived.Shelf.Slices.Empties2
import Derived.Test.YtncjonkmhfdabaaGreatDoorProg
namespace Go.Proofs
open Go.Shelf
def Tryz.lays169_ren : Go.Shelf.Ren := ⟨fun | 169 => 89 | n => n, fun | 70 => 157 | 9 => 9 | 0 => 0 | 72 => 160 | 37 => 158 | 127 => 199 | 3 => 3 | 5 => 5 | n => n, fun | n => n⟩
theorem Tryz.lays169 : Go.Proofs.Lays.n169 Tryz.prog Tryz.lays169_ren := {
  mixed := by kernel_rfl
  f169 := Tryz.func89.trans (congrArg some (by kernel_rfl))
  t0 := Tryz.underlying0
  a0 := Tryz.isAgg0
  z0 := Tryz.sizeOf0
  v0 := Tryz.zeroValue0
  t3 := Tryz.underlying3
  a3 := Tryz.isAgg3
  z3 := Tryz.sizeOf3
  v3 := Tryz.zeroValue3
  t9 := Tryz.underlying9
  a9 := Tryz.isAgg9
  z9 := Tryz.sizeOf9
  v9 := Tryz.zeroValue9
  t37 := Tryz.underlying158
  a37 := Tryz.isAgg158
  z37 := Tryz.sizeOf158
  v37 := Tryz.zeroValue158
  t70 := Tryz.underlying157
  a70 := Tryz.isAgg157
  z70 := Tryz.sizeOf157
  v70 := Tryz.zeroValue157
  t72 := Tryz.underlying160
  a72 := Tryz.isAgg160
  z72 := Tryz.sizeOf160
  v72 := Tryz.zeroValue160
  t127 := Tryz.underlying199
  a127 := Tryz.isAgg199
  z127 := Tryz.sizeOf199
  v127 := Tryz.zeroValue199 }
theorem Tryz.Builder_Extra_169 : Builder.Extra Tryz.prog Tryz.lays169_ren := {
  sizeBuilder := by kernel_rfl
  liesBuilder := by kernel_rfl
  t5 := Tryz.underlying5
  a5 := Tryz.isAgg5
  z5 := Tryz.sizeOf5
  v5 := Tryz.zeroValue5
  infoByte := by kernel_rfl
  cellsByte := by kernel_rfl
  sizeByte := by kernel_rfl
  neB5 := by decide }
open Go.RowKit in
theorem Tryz.Builder_String_any (B b : Nat) (l : List UInt8) (w : World) (h : Lib.IsBuilder 160 5 B b (Lib.byteCells l) w) (hBw : B ≤ w.heap.size) :
    Calls Tryz.prog 89 #[.pointer (some ⟨b, 0, none⟩)] w fun e w' => e = .returned (.string ⟨l.toArray⟩) ∧ Below B w w' := Any.Builder_String_any Tryz.lays169 Tryz.Builder_Extra_169 B b l w h hBw
def Tryz.lays137_ren : Go.Shelf.Ren := ⟨fun | 137 => 130 | 217 => 124 | 266 => 173 | n => n, fun | 9 => 9 | 5 => 5 | 3 => 3 | n => n, fun | n => n⟩
theorem Tryz.lays137 : Go.Proofs.Lays.n137 Tryz.prog Tryz.lays137_ren := {
  mixed := by kernel_rfl
  f137 := Tryz.func130.trans (congrArg some (by kernel_rfl))
  f217 := Tryz.func124.trans (congrArg some (by kernel_rfl))
  f266 := Tryz.func173.trans (congrArg some (by kernel_rfl))
  t3 := Tryz.underlying3
  a3 := Tryz.isAgg3
  z3 := Tryz.sizeOf3
  v3 := Tryz.zeroValue3
  t5 := Tryz.underlying5
  a5 := Tryz.isAgg5
  z5 := Tryz.sizeOf5
  v5 := Tryz.zeroValue5
  t9 := Tryz.underlying9
  a9 := Tryz.isAgg9
  z9 := Tryz.sizeOf9
  v9 := Tryz.zeroValue9 }
open Go.RowKit in
theorem Tryz.strings_IndexByte (s : ByteArray) (c : Int) (w : World) :
    Calls Tryz.prog 130 #[.string s, .int .u8 c] w fun e w' => e = .returned (.int .i64 (Lib.indexByte s.data.toList c.toNat.toUInt8)) ∧ w' = w := Any.strings_IndexByte Tryz.lays137 s c w
def Tryz.lays144_ren : Go.Shelf.Ren := ⟨fun | 144 => 8 | 143 => 38 | 219 => 80 | 217 => 124 | 225 => 125 | 224 => 126 | 267 => 127 | 266 => 173 | 314 => 174 | n => n, fun | 9 => 9 | 4 => 4 | 3 => 3 | 5 => 5 | 46 => 183 | 146 => 214 | 51 => 213 | n => n, fun | 1 => 0 | n => n⟩
theorem Tryz.lays144 : Go.Proofs.Lays.n144 Tryz.prog Tryz.lays144_ren := {
  mixed := by kernel_rfl
  f143 := Tryz.func38.trans (congrArg some (by kernel_rfl))
  f144 := Tryz.func8.trans (congrArg some (by kernel_rfl))
  f217 := Tryz.func124.trans (congrArg some (by kernel_rfl))
  f219 := Tryz.func80.trans (congrArg some (by kernel_rfl))
  f224 := Tryz.func126.trans (congrArg some (by kernel_rfl))
  f225 := Tryz.func125.trans (congrArg some (by kernel_rfl))
  f266 := Tryz.func173.trans (congrArg some (by kernel_rfl))
  f267 := Tryz.func127.trans (congrArg some (by kernel_rfl))
  f314 := Tryz.func174.trans (congrArg some (by kernel_rfl))
  t3 := Tryz.underlying3
  a3 := Tryz.isAgg3
  z3 := Tryz.sizeOf3
  v3 := Tryz.zeroValue3
  t4 := Tryz.underlying4
  a4 := Tryz.isAgg4
  z4 := Tryz.sizeOf4
  v4 := Tryz.zeroValue4
  t5 := Tryz.underlying5
  a5 := Tryz.isAgg5
  z5 := Tryz.sizeOf5
  v5 := Tryz.zeroValue5
  t9 := Tryz.underlying9
  a9 := Tryz.isAgg9
  z9 := Tryz.sizeOf9
  v9 := Tryz.zeroValue9
  t46 := Tryz.underlying183
  a46 := Tryz.isAgg183
  z46 := Tryz.sizeOf183
  v46 := Tryz.zeroValue183
  t51 := Tryz.underlying213
  a51 := Tryz.isAgg213
  z51 := Tryz.sizeOf213
  v51 := Tryz.zeroValue213
  t146 := Tryz.underlying214
  a146 := Tryz.isAgg214
  z146 := Tryz.sizeOf214
  v146 := Tryz.zeroValue214
  g1 := by kernel_rfl }
open Go.RowKit Go.Lib in
theorem Tryz.strings_Contains_one (s : ByteArray) (c : UInt8) (w : World) :
    Calls Tryz.prog 8 #[.string s, .string ⟨#[c]⟩] w fun e w' => e = .returned (.bool (decide (0 ≤ Lib.indexByte s.data.toList c))) ∧ w' = w := Any.strings_Contains_one Tryz.lays144 s c w
def Tryz.lays138_ren : Go.Shelf.Ren := ⟨fun | 138 => 17 | 195 => 50 | 218 => 51 | 143 => 38 | 219 => 80 | 217 => 124 | 225 => 125 | 224 => 126 | 267 => 127 | 266 => 173 | 314 => 174 | n => n, fun | 9 => 9 | 3 => 3 | 4 => 4 | 5 => 5 | 0 => 0 | 46 => 183 | 146 => 214 | 51 => 213 | n => n, fun | 1 => 0 | n => n⟩
theorem Tryz.lays138 : Go.Proofs.Lays.n138 Tryz.prog Tryz.lays138_ren := {
  mixed := by kernel_rfl
  f138 := Tryz.func17.trans (congrArg some (by kernel_rfl))
  f143 := Tryz.func38.trans (congrArg some (by kernel_rfl))
  f195 := Tryz.func50.trans (congrArg some (by kernel_rfl))
  f217 := Tryz.func124.trans (congrArg some (by kernel_rfl))
  f218 := Tryz.func51.trans (congrArg some (by kernel_rfl))
  f219 := Tryz.func80.trans (congrArg some (by kernel_rfl))
  f224 := Tryz.func126.trans (congrArg some (by kernel_rfl))
  f225 := Tryz.func125.trans (congrArg some (by kernel_rfl))
  f266 := Tryz.func173.trans (congrArg some (by kernel_rfl))
  f267 := Tryz.func127.trans (congrArg some (by kernel_rfl))
  f314 := Tryz.func174.trans (congrArg some (by kernel_rfl))
  t0 := Tryz.underlying0
  a0 := Tryz.isAgg0
  z0 := Tryz.sizeOf0
  v0 := Tryz.zeroValue0
  t3 := Tryz.underlying3
  a3 := Tryz.isAgg3
  z3 := Tryz.sizeOf3
  v3 := Tryz.zeroValue3
  t4 := Tryz.underlying4
  a4 := Tryz.isAgg4
  z4 := Tryz.sizeOf4
  v4 := Tryz.zeroValue4
  t5 := Tryz.underlying5
  a5 := Tryz.isAgg5
  z5 := Tryz.sizeOf5
  v5 := Tryz.zeroValue5
  t9 := Tryz.underlying9
  a9 := Tryz.isAgg9
  z9 := Tryz.sizeOf9
  v9 := Tryz.zeroValue9
  t46 := Tryz.underlying183
  a46 := Tryz.isAgg183
  z46 := Tryz.sizeOf183
  v46 := Tryz.zeroValue183
  t51 := Tryz.underlying213
  a51 := Tryz.isAgg213
  z51 := Tryz.sizeOf213
  v51 := Tryz.zeroValue213
  t146 := Tryz.underlying214
  a146 := Tryz.isAgg214
  z146 := Tryz.sizeOf214
  v146 := Tryz.zeroValue214
  g1 := by kernel_rfl }
open Go.RowKit Go.Lib in
theorem Tryz.strings_Count_one (s : ByteArray) (c : UInt8) (w : World) :
    Calls Tryz.prog 17 #[.string s, .string ⟨#[c]⟩] w fun e w' => e = .returned (.int .i64 (Lib.countByte s.data.toList c)) ∧ w' = w := Any.strings_Count_one Tryz.lays138 s c w
def Tryz.laysM143_ren : Go.Shelf.Ren := ⟨fun | 143 => 38 | 219 => 80 | 217 => 124 | 225 => 125 | 224 => 126 | 267 => 127 | 266 => 173 | 314 => 174 | n => n, fun | 9 => 9 | 3 => 3 | 4 => 4 | 5 => 5 | 46 => 183 | 146 => 214 | 51 => 213 | n => n, fun | 1 => 0 | n => n⟩
theorem Tryz.laysM143 : Go.Proofs.LaysM.n143 Tryz.prog Tryz.laysM143_ren := {
  mixed := by kernel_rfl
  f143 := Tryz.func38.trans (congrArg some (by kernel_rfl))
  f217 := Tryz.func124.trans (congrArg some (by kernel_rfl))
  f219 := Tryz.func80.trans (congrArg some (by kernel_rfl))
  f224 := Tryz.func126.trans (congrArg some (by kernel_rfl))
  f225 := Tryz.func125.trans (congrArg some (by kernel_rfl))
  f266 := Tryz.func173.trans (congrArg some (by kernel_rfl))
  f267 := Tryz.func127.trans (congrArg some (by kernel_rfl))
  f314 := Tryz.func174.trans (congrArg some (by kernel_rfl))
  t3 := Tryz.underlying3
  a3 := Tryz.isAgg3
  z3 := Tryz.sizeOf3
  v3 := Tryz.zeroValue3
  t4 := Tryz.underlying4
  a4 := Tryz.isAgg4
  z4 := Tryz.sizeOf4
  v4 := Tryz.zeroValue4
  t5 := Tryz.underlying5
  a5 := Tryz.isAgg5
  z5 := Tryz.sizeOf5
  v5 := Tryz.zeroValue5
  t9 := Tryz.underlying9
  a9 := Tryz.isAgg9
  z9 := Tryz.sizeOf9
  v9 := Tryz.zeroValue9
  t46 := Tryz.underlying183
  a46 := Tryz.isAgg183
  z46 := Tryz.sizeOf183
  v46 := Tryz.zeroValue183
  t51 := Tryz.underlying213
  a51 := Tryz.isAgg213
  z51 := Tryz.sizeOf213
  v51 := Tryz.zeroValue213
  t146 := Tryz.underlying214
  a146 := Tryz.isAgg214
  z146 := Tryz.sizeOf214
  v146 := Tryz.zeroValue214
  g1 := by kernel_rfl
  i3 := by kernel_rfl
  i4 := by kernel_rfl
  i5 := by kernel_rfl
  i9 := by kernel_rfl
  i46 := by kernel_rfl
  i51 := by kernel_rfl
  i146 := by kernel_rfl
  m1 := by kernel_rfl
  s1_3 := fun w h => Go.Proofs.cell_of_shapedOpen_int (zero := #[.int .i64 0]) (t := 3) h (of_decide_eq_true (by kernel_rfl)) (by kernel_rfl) rfl (by kernel_rfl) (by kernel_rfl) Tryz.underlying3 }
def Tryz.lays99_ren : Go.Shelf.Ren := ⟨fun | 99 => 169 | 206 => 208 | n => n, fun | 9 => 9 | 4 => 4 | 3 => 3 | n => n, fun | n => n⟩
theorem Tryz.lays99 : Go.Proofs.Lays.n99 Tryz.prog Tryz.lays99_ren := {
  mixed := by kernel_rfl
  f99 := Tryz.func169.trans (congrArg some (by kernel_rfl))
  f206 := Tryz.func208.trans (congrArg some (by kernel_rfl))
  t3 := Tryz.underlying3
  a3 := Tryz.isAgg3
  z3 := Tryz.sizeOf3
  v3 := Tryz.zeroValue3
  t4 := Tryz.underlying4
  a4 := Tryz.isAgg4
  z4 := Tryz.sizeOf4
  v4 := Tryz.zeroValue4
  t9 := Tryz.underlying9
  a9 := Tryz.isAgg9
  z9 := Tryz.sizeOf9
  v9 := Tryz.zeroValue9 }
open Go.RowKit Go.Lib in
theorem Tryz.strings_HasPrefix (s p : ByteArray) (w : World) :
    Calls Tryz.prog 169 #[.string s, .string p] w fun e w' => e = .returned (.bool (Lib.hasPrefix s.data.toList p.data.toList)) ∧ w' = w := Any.strings_HasPrefix Tryz.lays99 s p w
def Tryz.lays100_ren : Go.Shelf.Ren := ⟨fun | 100 => 170 | 207 => 95 | n => n, fun | 9 => 9 | 4 => 4 | 3 => 3 | n => n, fun | n => n⟩
theorem Tryz.lays100 : Go.Proofs.Lays.n100 Tryz.prog Tryz.lays100_ren := {
  mixed := by kernel_rfl
  f100 := Tryz.func170.trans (congrArg some (by kernel_rfl))
  f207 := Tryz.func95.trans (congrArg some (by kernel_rfl))
  t3 := Tryz.underlying3
  a3 := Tryz.isAgg3
  z3 := Tryz.sizeOf3
  v3 := Tryz.zeroValue3
  t4 := Tryz.underlying4
  a4 := Tryz.isAgg4
  z4 := Tryz.sizeOf4
  v4 := Tryz.zeroValue4
  t9 := Tryz.underlying9
  a9 := Tryz.isAgg9
  z9 := Tryz.sizeOf9
  v9 := Tryz.zeroValue9 }
open Go.RowKit Go.Lib in
theorem Tryz.strings_HasSuffix (s p : ByteArray) (w : World) (hs : s.size ≤ 9223372036854775807) :
    Calls Tryz.prog 170 #[.string s, .string p] w fun e w' => e = .returned (.bool (Lib.hasSuffix s.data.toList p.data.toList)) ∧ w' = w := Any.strings_HasSuffix Tryz.lays100 s p w hs
def Tryz.lays101_ren : Go.Shelf.Ren := ⟨fun | 101 => 164 | 208 => 206 | 206 => 208 | n => n, fun | 9 => 9 | 4 => 4 | 3 => 3 | n => n, fun | n => n⟩
theorem Tryz.lays101 : Go.Proofs.Lays.n101 Tryz.prog Tryz.lays101_ren := {
  mixed := by kernel_rfl
  f101 := Tryz.func164.trans (congrArg some (by kernel_rfl))
  f206 := Tryz.func208.trans (congrArg some (by kernel_rfl))
  f208 := Tryz.func206.trans (congrArg some (by kernel_rfl))
  t3 := Tryz.underlying3
  a3 := Tryz.isAgg3
  z3 := Tryz.sizeOf3
  v3 := Tryz.zeroValue3
  t4 := Tryz.underlying4
  a4 := Tryz.isAgg4
  z4 := Tryz.sizeOf4
  v4 := Tryz.zeroValue4
  t9 := Tryz.underlying9
  a9 := Tryz.isAgg9
  z9 := Tryz.sizeOf9
  v9 := Tryz.zeroValue9 }
open Go.RowKit Go.Lib in
theorem Tryz.strings_TrimPrefix (s p : ByteArray) (w : World) :
    Calls Tryz.prog 164 #[.string s, .string p] w fun e w' => e = .returned (.string ⟨(Lib.trimPrefix s.data.toList p.data.toList).toArray⟩) ∧ w' = w := Any.strings_TrimPrefix Tryz.lays101 s p w
def Tryz.lays102_ren : Go.Shelf.Ren := ⟨fun | 102 => 18 | 209 => 52 | 207 => 95 | n => n, fun | 9 => 9 | 4 => 4 | 3 => 3 | n => n, fun | n => n⟩
theorem Tryz.lays102 : Go.Proofs.Lays.n102 Tryz.prog Tryz.lays102_ren := {
  mixed := by kernel_rfl
  f102 := Tryz.func18.trans (congrArg some (by kernel_rfl))
  f207 := Tryz.func95.trans (congrArg some (by kernel_rfl))
  f209 := Tryz.func52.trans (congrArg some (by kernel_rfl))
  t3 := Tryz.underlying3
  a3 := Tryz.isAgg3
  z3 := Tryz.sizeOf3
  v3 := Tryz.zeroValue3
  t4 := Tryz.underlying4
  a4 := Tryz.isAgg4
  z4 := Tryz.sizeOf4
  v4 := Tryz.zeroValue4
  t9 := Tryz.underlying9
  a9 := Tryz.isAgg9
  z9 := Tryz.sizeOf9
  v9 := Tryz.zeroValue9 }
open Go.RowKit Go.Lib in
theorem Tryz.strings_TrimSuffix (s p : ByteArray) (w : World) (hs : s.size ≤ 9223372036854775807) :
    Calls Tryz.prog 18 #[.string s, .string p] w fun e w' => e = .returned (.string ⟨(Lib.trimSuffix s.data.toList p.data.toList).toArray⟩) ∧ w' = w := Any.strings_TrimSuffix Tryz.lays102 s p w hs
def Tryz.lays155_ren : Go.Shelf.Ren := ⟨fun | 155 => 16 | 154 => 49 | 138 => 17 | 165 => 93 | 143 => 38 | 166 => 87 | 197 => 94 | 169 => 89 | 195 => 50 | 218 => 51 | 240 => 129 | 241 => 131 | 219 => 80 | 260 => 132 | 276 => 177 | 277 => 178 | 217 => 124 | 225 => 125 | 224 => 126 | 267 => 127 | 266 => 173 | 314 => 174 | n => n, fun | 9 => 9 | 3 => 3 | 4 => 4 | 72 => 160 | 0 => 0 | 76 => 163 | 105 => 171 | 21 => 21 | 5 => 5 | 70 => 157 | 20 => 20 | 37 => 158 | 75 => 162 | 127 => 199 | 164 => 241 | 46 => 183 | 119 => 244 | 139 => 247 | 138 => 246 | 146 => 214 | 51 => 213 | 80 => 166 | n => n, fun | 1 => 0 | 3 => 1 | 4 => 2 | n => n⟩
theorem Tryz.lays155 : Go.Proofs.Lays.n155 Tryz.prog Tryz.lays155_ren := {
  mixed := by kernel_rfl
  f138 := Tryz.func17.trans (congrArg some (by kernel_rfl))
  f143 := Tryz.func38.trans (congrArg some (by kernel_rfl))
  f154 := Tryz.func49.trans (congrArg some (by kernel_rfl))
  f155 := Tryz.func16.trans (congrArg some (by kernel_rfl))
  f165 := Tryz.func93.trans (congrArg some (by kernel_rfl))
  f166 := Tryz.func87.trans (congrArg some (by kernel_rfl))
  f169 := Tryz.func89.trans (congrArg some (by kernel_rfl))
  f195 := Tryz.func50.trans (congrArg some (by kernel_rfl))
  f197 := Tryz.func94.trans (congrArg some (by kernel_rfl))
  f217 := Tryz.func124.trans (congrArg some (by kernel_rfl))
  f218 := Tryz.func51.trans (congrArg some (by kernel_rfl))
  f219 := Tryz.func80.trans (congrArg some (by kernel_rfl))
  f224 := Tryz.func126.trans (congrArg some (by kernel_rfl))
  f225 := Tryz.func125.trans (congrArg some (by kernel_rfl))
  f240 := Tryz.func129.trans (congrArg some (by kernel_rfl))
  f241 := Tryz.func131.trans (congrArg some (by kernel_rfl))
  f260 := Tryz.func132.trans (congrArg some (by kernel_rfl))
  f266 := Tryz.func173.trans (congrArg some (by kernel_rfl))
  f267 := Tryz.func127.trans (congrArg some (by kernel_rfl))
  f276 := Tryz.func177.trans (congrArg some (by kernel_rfl))
  f277 := Tryz.func178.trans (congrArg some (by kernel_rfl))
  f314 := Tryz.func174.trans (congrArg some (by kernel_rfl))
  t0 := Tryz.underlying0
  a0 := Tryz.isAgg0
  z0 := Tryz.sizeOf0
  v0 := Tryz.zeroValue0
  t3 := Tryz.underlying3
  a3 := Tryz.isAgg3
  z3 := Tryz.sizeOf3
  v3 := Tryz.zeroValue3
  t4 := Tryz.underlying4
  a4 := Tryz.isAgg4
  z4 := Tryz.sizeOf4
  v4 := Tryz.zeroValue4
  t5 := Tryz.underlying5
  a5 := Tryz.isAgg5
  z5 := Tryz.sizeOf5
  v5 := Tryz.zeroValue5
  t9 := Tryz.underlying9
  a9 := Tryz.isAgg9
  z9 := Tryz.sizeOf9
  v9 := Tryz.zeroValue9
  t20 := Tryz.underlying20
  a20 := Tryz.isAgg20
  z20 := Tryz.sizeOf20
  v20 := Tryz.zeroValue20
  t21 := Tryz.underlying21
  a21 := Tryz.isAgg21
  z21 := Tryz.sizeOf21
  v21 := Tryz.zeroValue21
  t37 := Tryz.underlying158
  a37 := Tryz.isAgg158
  z37 := Tryz.sizeOf158
  v37 := Tryz.zeroValue158
  t46 := Tryz.underlying183
  a46 := Tryz.isAgg183
  z46 := Tryz.sizeOf183
  v46 := Tryz.zeroValue183
  t51 := Tryz.underlying213
  a51 := Tryz.isAgg213
  z51 := Tryz.sizeOf213
  v51 := Tryz.zeroValue213
  t70 := Tryz.underlying157
  a70 := Tryz.isAgg157
  z70 := Tryz.sizeOf157
  v70 := Tryz.zeroValue157
  t72 := Tryz.underlying160
  a72 := Tryz.isAgg160
  z72 := Tryz.sizeOf160
  v72 := Tryz.zeroValue160
  t75 := Tryz.underlying162
  a75 := Tryz.isAgg162
  z75 := Tryz.sizeOf162
  v75 := Tryz.zeroValue162
  t76 := Tryz.underlying163
  a76 := Tryz.isAgg163
  z76 := Tryz.sizeOf163
  v76 := Tryz.zeroValue163
  t105 := Tryz.underlying171
  a105 := Tryz.isAgg171
  z105 := Tryz.sizeOf171
  v105 := Tryz.zeroValue171
  t119 := Tryz.underlying244
  a119 := Tryz.isAgg244
  z119 := Tryz.sizeOf244
  t127 := Tryz.underlying199
  a127 := Tryz.isAgg199
  z127 := Tryz.sizeOf199
  v127 := Tryz.zeroValue199
  t138 := Tryz.underlying246
  a138 := Tryz.isAgg246
  z138 := Tryz.sizeOf246
  v138 := Tryz.zeroValue246
  t139 := Tryz.underlying247
  a139 := Tryz.isAgg247
  z139 := Tryz.sizeOf247
  v139 := Tryz.zeroValue247
  t146 := Tryz.underlying214
  a146 := Tryz.isAgg214
  z146 := Tryz.sizeOf214
  v146 := Tryz.zeroValue214
  t164 := Tryz.underlying241
  a164 := Tryz.isAgg241
  z164 := Tryz.sizeOf241
  v164 := Tryz.zeroValue241
  g1 := by kernel_rfl
  g3 := by kernel_rfl
  g4 := by kernel_rfl }
theorem Tryz.Builder_Extra_155 : Builder.Extra Tryz.prog Tryz.lays155_ren := {
  sizeBuilder := by kernel_rfl
  liesBuilder := by kernel_rfl
  t5 := Tryz.underlying5
  a5 := Tryz.isAgg5
  z5 := Tryz.sizeOf5
  v5 := Tryz.zeroValue5
  infoByte := by kernel_rfl
  cellsByte := by kernel_rfl
  sizeByte := by kernel_rfl
  neB5 := by decide }
open Go.RowKit Go.Lib in
theorem Tryz.strings_ReplaceAll (s old new : ByteArray) (m : Int) (w : World) (hs : s.size < 4294967281) (hm : w.cell? ⟨0, 0, none⟩ = some (.int .i64 m)) (h1 : 1 ≤ old.size) (hlen : s.size + Lib.countB s old * new.size ≤ 140737488355328) :
    Calls Tryz.prog 16 #[.string s, .string old, .string new] w fun e w' =>
      e = .returned (.string ⟨(Lib.replaceAll s.data.toList old.data.toList new.data.toList).toArray⟩) ∧ Below w.heap.size w w' := Any.strings_ReplaceAll Tryz.lays155 Tryz.Builder_Extra_155 s old new m w hs hm h1 hlen
end Go.Proofs
