/- The contracts of the library's functions, laid by program at this translation. -/
import Derived.Shelf.Strings.Builder1
import Derived.Shelf.Strings.Builder2
import Derived.Shelf.Strings.OnBuilder
import Derived.Shelf.Small.Bits
import Derived.Shelf.Small.Strs
import Derived.Shelf.Small.Wraps
import Derived.Shelf.Strings.BuilderF
import Derived.Shelf.Strings.BuilderK
import Derived.Shelf.Utf8.RuneCount
import Derived.Shelf.Strings.Builder2Cap
import Derived.Shelf.Strconv.Atoi
import Derived.Shelf.Strconv.Itoa0
import Derived.Shelf.Strconv.Itoa1
import Derived.Shelf.LaysM
import Derived.Shelf.Strconv.Itoa2
import Derived.Shelf.Strconv.Itoa3
import Derived.Shelf.Strconv.AtoiErrFast
import Derived.Shelf.Strconv.ParseIntEmpty
import Derived.Shelf.Strconv.AtoiFail
import Derived.Shelf.Strconv.Clone
import Derived.Shelf.Strconv.SyntaxError
import Derived.Shelf.LaysC
import Derived.Shelf.Strconv.ToError
import Derived.Shelf.Strconv.Lower
import Derived.Shelf.Strconv.ParseUint10
import Derived.Shelf.Strconv.ParseUint10Empty
import Derived.Shelf.Strconv.ParseUint10Any
import Derived.Shelf.Strconv.ParseInt10
import Derived.Shelf.Strconv.AtoiLong
import Derived.Shelf.Strconv.AtoiInnerAll
import Derived.Shelf.Strconv.RangeError
import Derived.Shelf.Strconv.ToErrorRange
import Derived.Shelf.Strconv.AtoiAll
import Derived.Shelf.Strconv.ErrVarAll
import Derived.Shelf.Strconv.ParseUintEmpty
import Derived.Shelf.Strconv.ParseUint10b64
import Derived.Shelf.Strconv.ParseUint10b32
import Derived.Shelf.Strconv.ParseUint10b16
import Derived.Shelf.Strconv.ParseUint10b8
import Derived.Shelf.Strconv.ParseUint10At
import Derived.Shelf.Strconv.ParseInt10At64
import Derived.Shelf.Strconv.ParseInt10At32
import Derived.Shelf.Strconv.ParseInt10At16
import Derived.Shelf.Strconv.ParseInt10At8
import Derived.Shelf.Strconv.ParseInt10All
import Derived.Shelf.Strings.Search1
import Derived.Shelf.Strings.Search2
import Derived.Shelf.Strings.Search3
import Derived.Shelf.Strings.Count
import Derived.Shelf.Strings.Shaped
import Derived.Shelf.Strings.Prefix
import Derived.Shelf.Strings.Split
import Derived.Shelf.Strings.Fields
import Derived.Shelf.Strings.Replace
import Derived.Shelf.Strings.SplitShaped
import Derived.Shelf.Unicode.Latin
import Derived.Shelf.Unicode.Decode
import Derived.Shelf.Strings.RuneCount
import Derived.Shelf.Unicode.DecodeSlow
import Derived.Shelf.Unicode.DecodeAny
import Derived.Shelf.Unicode.Is16White
import Derived.Shelf.Unicode.IsSpaceAny
import Derived.Shelf.Unicode.Is16WhiteD
import Derived.Shelf.Unicode.IsSpaceAnyD
import Derived.Shelf.Strings.FieldsFuncAny
import Derived.Shelf.Unicode.Is16Any
import Derived.Shelf.Unicode.Is32Any
import Derived.Shelf.Unicode.ExclAny
import Derived.Shelf.Strings.FieldsFuncGrows
import Derived.Shelf.Strings.BuilderCap
import Derived.Shelf.Slices.Turned
import Derived.Shelf.Slices.Equal
import Derived.Shelf.Slices.CompactS
import Derived.Shelf.Slices.Cells
import Derived.Shelf.Slices.Empties2
import Derived.Ground.SlsfProg
import Derived.Shelf.SlSortCmp.Insertion
import Derived.Shelf.SlSortCmp.SiftDown1
import Derived.Shelf.SlSortCmp.HeapSort1
import Derived.Shelf.SlSortCmp.Insertion1
import Derived.Shelf.SlSortCmp.Median1
import Derived.Shelf.SlSortCmp.Pivot1
import Derived.Shelf.SlSortCmp.ReverseRange1
import Derived.Shelf.SlSortCmp.PartialInsertion1
import Derived.Shelf.SlSortCmp.PartitionEqual1
import Derived.Shelf.SlSortCmp.Partition1
import Derived.Shelf.SlSortCmp.Pdq1
import Derived.Shelf.SlSortCmp.Whole1
import Derived.Test.YtieeggfkfgmdgaaGreatDoorProg
namespace Go.Proofs
open Go.Shelf
def Tryz.lays170_ren : Go.Shelf.Ren := ⟨fun | 170 => 80 | n => n, fun | 70 => 72 | 3 => 3 | 0 => 0 | 72 => 75 | 37 => 73 | 5 => 5 | n => n, fun | n => n⟩
theorem Tryz.lays170 : Go.Proofs.Lays.n170 Tryz.prog Tryz.lays170_ren := {
  mixed := by kernel_rfl
  f170 := Tryz.func80.trans (congrArg some (by kernel_rfl))
  t0 := Tryz.underlying0
  a0 := Tryz.isAgg0
  z0 := Tryz.sizeOf0
  v0 := Tryz.zeroValue0
  t3 := Tryz.underlying3
  a3 := Tryz.isAgg3
  z3 := Tryz.sizeOf3
  v3 := Tryz.zeroValue3
  t37 := Tryz.underlying73
  a37 := Tryz.isAgg73
  z37 := Tryz.sizeOf73
  v37 := Tryz.zeroValue73
  t70 := Tryz.underlying72
  a70 := Tryz.isAgg72
  z70 := Tryz.sizeOf72
  v70 := Tryz.zeroValue72
  t72 := Tryz.underlying75
  a72 := Tryz.isAgg75
  z72 := Tryz.sizeOf75
  v72 := Tryz.zeroValue75 }
open Go.RowKit in
theorem Tryz.Builder_Len (B b : Nat) (bs : List Value) (w : World) (h : Lib.IsBuilder 75 5 B b bs w) :
    Calls Tryz.prog 80 #[.pointer (some ⟨b, 0, none⟩)] w fun e w' => e = .returned (.int .i64 bs.length) ∧ w' = w := Any.Builder_Len Tryz.lays170 B b bs w h
def Tryz.lays169_ren : Go.Shelf.Ren := ⟨fun | 169 => 48 | n => n, fun | 70 => 72 | 9 => 9 | 0 => 0 | 72 => 75 | 37 => 73 | 127 => 129 | 3 => 3 | 5 => 5 | n => n, fun | n => n⟩
theorem Tryz.lays169 : Go.Proofs.Lays.n169 Tryz.prog Tryz.lays169_ren := {
  mixed := by kernel_rfl
  f169 := Tryz.func48.trans (congrArg some (by kernel_rfl))
  t0 := Tryz.underlying0
  a0 := Tryz.isAgg0
  z0 := Tryz.sizeOf0
  v0 := Tryz.zeroValue0
  t3 := Tryz.underlying3
  a3 := Tryz.isAgg3
  z3 := Tryz.sizeOf3
  v3 := Tryz.zeroValue3
  t9 := Tryz.underlying9
  a9 := Tryz.isAgg9
  z9 := Tryz.sizeOf9
  v9 := Tryz.zeroValue9
  t37 := Tryz.underlying73
  a37 := Tryz.isAgg73
  z37 := Tryz.sizeOf73
  v37 := Tryz.zeroValue73
  t70 := Tryz.underlying72
  a70 := Tryz.isAgg72
  z70 := Tryz.sizeOf72
  v70 := Tryz.zeroValue72
  t72 := Tryz.underlying75
  a72 := Tryz.isAgg75
  z72 := Tryz.sizeOf75
  v72 := Tryz.zeroValue75
  t127 := Tryz.underlying129
  a127 := Tryz.isAgg129
  z127 := Tryz.sizeOf129
  v127 := Tryz.zeroValue129 }
theorem Tryz.Builder_Extra_169 : Builder.Extra Tryz.prog Tryz.lays169_ren := {
  sizeBuilder := by kernel_rfl
  liesBuilder := by kernel_rfl
  t5 := Tryz.underlying5
  a5 := Tryz.isAgg5
  z5 := Tryz.sizeOf5
  v5 := Tryz.zeroValue5
  infoByte := by kernel_rfl
  cellsByte := by kernel_rfl
  sizeByte := by kernel_rfl
  neB5 := by decide }
open Go.RowKit in
theorem Tryz.Builder_String_any (B b : Nat) (l : List UInt8) (w : World) (h : Lib.IsBuilder 75 5 B b (Lib.byteCells l) w) (hBw : B ≤ w.heap.size) :
    Calls Tryz.prog 48 #[.pointer (some ⟨b, 0, none⟩)] w fun e w' => e = .returned (.string ⟨l.toArray⟩) ∧ Below B w w' := Any.Builder_String_any Tryz.lays169 Tryz.Builder_Extra_169 B b l w h hBw
def Tryz.lays125_ren : Go.Shelf.Ren := ⟨fun | 125 => 118 | 128 => 167 | 129 => 168 | n => n, fun | 46 => 138 | 3 => 3 | 51 => 155 | 53 => 184 | 4 => 4 | 5 => 5 | 9 => 9 | n => n, fun | n => n⟩
theorem Tryz.lays125 : Go.Proofs.Lays.n125 Tryz.prog Tryz.lays125_ren := {
  mixed := by kernel_rfl
  f125 := Tryz.func118.trans (congrArg some (by kernel_rfl))
  f128 := Tryz.func167.trans (congrArg some (by kernel_rfl))
  f129 := Tryz.func168.trans (congrArg some (by kernel_rfl))
  t3 := Tryz.underlying3
  a3 := Tryz.isAgg3
  z3 := Tryz.sizeOf3
  v3 := Tryz.zeroValue3
  t4 := Tryz.underlying4
  a4 := Tryz.isAgg4
  z4 := Tryz.sizeOf4
  v4 := Tryz.zeroValue4
  t5 := Tryz.underlying5
  a5 := Tryz.isAgg5
  z5 := Tryz.sizeOf5
  v5 := Tryz.zeroValue5
  t9 := Tryz.underlying9
  a9 := Tryz.isAgg9
  z9 := Tryz.sizeOf9
  v9 := Tryz.zeroValue9
  t46 := Tryz.underlying138
  a46 := Tryz.isAgg138
  z46 := Tryz.sizeOf138
  v46 := Tryz.zeroValue138
  t51 := Tryz.underlying155
  a51 := Tryz.isAgg155
  z51 := Tryz.sizeOf155
  v51 := Tryz.zeroValue155
  t53 := Tryz.underlying184
  a53 := Tryz.isAgg184
  z53 := Tryz.sizeOf184
  v53 := Tryz.zeroValue184 }
theorem Tryz.bits_Len (x : Int) (w : World) (h0 : 0 ≤ x) (h1 : x ≤ 18446744073709551615) :
    Calls Tryz.prog 118 #[.int .u64 x] w fun e w' => e = .returned (.int .i64 (Lib.bitLen x.toNat)) ∧ w' = w := Any.bits_Len Tryz.lays125 x w h0 h1
def Tryz.lays137_ren : Go.Shelf.Ren := ⟨fun | 137 => 112 | 217 => 157 | 266 => 188 | n => n, fun | 9 => 9 | 5 => 5 | 3 => 3 | n => n, fun | n => n⟩
theorem Tryz.lays137 : Go.Proofs.Lays.n137 Tryz.prog Tryz.lays137_ren := {
  mixed := by kernel_rfl
  f137 := Tryz.func112.trans (congrArg some (by kernel_rfl))
  f217 := Tryz.func157.trans (congrArg some (by kernel_rfl))
  f266 := Tryz.func188.trans (congrArg some (by kernel_rfl))
  t3 := Tryz.underlying3
  a3 := Tryz.isAgg3
  z3 := Tryz.sizeOf3
  v3 := Tryz.zeroValue3
  t5 := Tryz.underlying5
  a5 := Tryz.isAgg5
  z5 := Tryz.sizeOf5
  v5 := Tryz.zeroValue5
  t9 := Tryz.underlying9
  a9 := Tryz.isAgg9
  z9 := Tryz.sizeOf9
  v9 := Tryz.zeroValue9 }
open Go.RowKit in
theorem Tryz.strings_IndexByte (s : ByteArray) (c : Int) (w : World) :
    Calls Tryz.prog 112 #[.string s, .int .u8 c] w fun e w' => e = .returned (.int .i64 (Lib.indexByte s.data.toList c.toNat.toUInt8)) ∧ w' = w := Any.strings_IndexByte Tryz.lays137 s c w
def Tryz.lays171_ren : Go.Shelf.Ren := ⟨fun | 171 => 109 | 243 => 154 | 246 => 187 | 283 => 203 | 284 => 204 | 285 => 205 | 286 => 206 | 129 => 168 | 317 => 214 | 318 => 215 | 319 => 216 | 320 => 217 | 337 => 219 | 338 => 220 | n => n, fun | 3 => 3 | 9 => 9 | 2 => 2 | 4 => 4 | 171 => 231 | 0 => 0 | 53 => 184 | 37 => 73 | 5 => 5 | 173 => 233 | 212 => 246 | 51 => 155 | 20 => 20 | 213 => 247 | 46 => 138 | 232 => 250 | 233 => 251 | n => n, fun | 17 => 8 | 18 => 9 | 19 => 10 | n => n⟩
theorem Tryz.lays171 : Go.Proofs.Lays.n171 Tryz.prog Tryz.lays171_ren := {
  mixed := by kernel_rfl
  f129 := Tryz.func168.trans (congrArg some (by kernel_rfl))
  f171 := Tryz.func109.trans (congrArg some (by kernel_rfl))
  f243 := Tryz.func154.trans (congrArg some (by kernel_rfl))
  f246 := Tryz.func187.trans (congrArg some (by kernel_rfl))
  f283 := Tryz.func203.trans (congrArg some (by kernel_rfl))
  f284 := Tryz.func204.trans (congrArg some (by kernel_rfl))
  f285 := Tryz.func205.trans (congrArg some (by kernel_rfl))
  f286 := Tryz.func206.trans (congrArg some (by kernel_rfl))
  f317 := Tryz.func214.trans (congrArg some (by kernel_rfl))
  f318 := Tryz.func215.trans (congrArg some (by kernel_rfl))
  f319 := Tryz.func216.trans (congrArg some (by kernel_rfl))
  f320 := Tryz.func217.trans (congrArg some (by kernel_rfl))
  f337 := Tryz.func219.trans (congrArg some (by kernel_rfl))
  f338 := Tryz.func220.trans (congrArg some (by kernel_rfl))
  t0 := Tryz.underlying0
  a0 := Tryz.isAgg0
  z0 := Tryz.sizeOf0
  v0 := Tryz.zeroValue0
  t2 := Tryz.underlying2
  a2 := Tryz.isAgg2
  z2 := Tryz.sizeOf2
  v2 := Tryz.zeroValue2
  t3 := Tryz.underlying3
  a3 := Tryz.isAgg3
  z3 := Tryz.sizeOf3
  v3 := Tryz.zeroValue3
  t4 := Tryz.underlying4
  a4 := Tryz.isAgg4
  z4 := Tryz.sizeOf4
  v4 := Tryz.zeroValue4
  t5 := Tryz.underlying5
  a5 := Tryz.isAgg5
  z5 := Tryz.sizeOf5
  v5 := Tryz.zeroValue5
  t9 := Tryz.underlying9
  a9 := Tryz.isAgg9
  z9 := Tryz.sizeOf9
  v9 := Tryz.zeroValue9
  t20 := Tryz.underlying20
  a20 := Tryz.isAgg20
  z20 := Tryz.sizeOf20
  v20 := Tryz.zeroValue20
  t37 := Tryz.underlying73
  a37 := Tryz.isAgg73
  z37 := Tryz.sizeOf73
  v37 := Tryz.zeroValue73
  t46 := Tryz.underlying138
  a46 := Tryz.isAgg138
  z46 := Tryz.sizeOf138
  v46 := Tryz.zeroValue138
  t51 := Tryz.underlying155
  a51 := Tryz.isAgg155
  z51 := Tryz.sizeOf155
  v51 := Tryz.zeroValue155
  t53 := Tryz.underlying184
  a53 := Tryz.isAgg184
  z53 := Tryz.sizeOf184
  v53 := Tryz.zeroValue184
  t171 := Tryz.underlying231
  a171 := Tryz.isAgg231
  z171 := Tryz.sizeOf231
  v171 := Tryz.zeroValue231
  t173 := Tryz.underlying233
  a173 := Tryz.isAgg233
  z173 := Tryz.sizeOf233
  v173 := Tryz.zeroValue233
  t212 := Tryz.underlying246
  a212 := Tryz.isAgg246
  z212 := Tryz.sizeOf246
  v212 := Tryz.zeroValue246
  t213 := Tryz.underlying247
  a213 := Tryz.isAgg247
  z213 := Tryz.sizeOf247
  t232 := Tryz.underlying250
  a232 := Tryz.isAgg250
  z232 := Tryz.sizeOf250
  v232 := Tryz.zeroValue250
  t233 := Tryz.underlying251
  a233 := Tryz.isAgg251
  z233 := Tryz.sizeOf251
  v233 := Tryz.zeroValue251
  g17 := by kernel_rfl
  g18 := by kernel_rfl
  g19 := by kernel_rfl }
open Go.RowKit Go.Sort Go.Lib in
theorem Tryz.strconv_Itoa_small (i : Nat) (hi : i < 100) (w : World) :
    Calls Tryz.prog 109 #[.int .i64 i] w fun e w' => e = .returned (.string ⟨(Lib.decDigits i).toArray⟩) ∧ w' = w := Any.strconv_Itoa_small Tryz.lays171 i hi w
def Tryz.laysC172_ren : Go.Shelf.Ren := ⟨fun | 172 => 108 | 244 => 152 | 245 => 153 | 247 => 182 | 279 => 183 | 280 => 184 | 281 => 185 | 282 => 186 | 287 => 200 | 316 => 201 | 171 => 109 | 205 => 202 | 321 => 212 | 322 => 213 | 243 => 154 | 246 => 187 | 283 => 203 | 284 => 204 | 285 => 205 | 286 => 206 | 129 => 168 | 317 => 214 | 318 => 215 | 319 => 216 | 320 => 217 | 337 => 219 | 338 => 220 | n => n, fun | 9 => 9 | 3 => 3 | 75 => 82 | 76 => 83 | 4 => 4 | 5 => 5 | 167 => 206 | 37 => 73 | 0 => 0 | 85 => 207 | 2 => 2 | 168 => 209 | 53 => 184 | 175 => 226 | 46 => 138 | 210 => 229 | 127 => 129 | 145 => 244 | 143 => 242 | 21 => 21 | 171 => 231 | 173 => 233 | 212 => 246 | 51 => 155 | 20 => 20 | 213 => 247 | 232 => 250 | 233 => 251 | 80 => 85 | n => n, fun | 15 => 6 | 16 => 7 | 17 => 8 | 18 => 9 | 19 => 10 | n => n⟩
theorem Tryz.laysC172 : Go.Proofs.LaysC.n172 Tryz.prog Tryz.laysC172_ren := {
  mixed := by kernel_rfl
  f129 := Tryz.func168.trans (congrArg some (by kernel_rfl))
  f171 := Tryz.func109.trans (congrArg some (by kernel_rfl))
  f172 := Tryz.func108.trans (congrArg some (by kernel_rfl))
  f205 := Tryz.func202.trans (congrArg some (by kernel_rfl))
  f243 := Tryz.func154.trans (congrArg some (by kernel_rfl))
  f244 := Tryz.func152.trans (congrArg some (by kernel_rfl))
  f245 := Tryz.func153.trans (congrArg some (by kernel_rfl))
  f246 := Tryz.func187.trans (congrArg some (by kernel_rfl))
  f247 := Tryz.func182.trans (congrArg some (by kernel_rfl))
  f279 := Tryz.func183.trans (congrArg some (by kernel_rfl))
  f280 := Tryz.func184.trans (congrArg some (by kernel_rfl))
  f281 := Tryz.func185.trans (congrArg some (by kernel_rfl))
  f282 := Tryz.func186.trans (congrArg some (by kernel_rfl))
  f283 := Tryz.func203.trans (congrArg some (by kernel_rfl))
  f284 := Tryz.func204.trans (congrArg some (by kernel_rfl))
  f285 := Tryz.func205.trans (congrArg some (by kernel_rfl))
  f286 := Tryz.func206.trans (congrArg some (by kernel_rfl))
  f287 := Tryz.func200.trans (congrArg some (by kernel_rfl))
  f316 := Tryz.func201.trans (congrArg some (by kernel_rfl))
  f317 := Tryz.func214.trans (congrArg some (by kernel_rfl))
  f318 := Tryz.func215.trans (congrArg some (by kernel_rfl))
  f319 := Tryz.func216.trans (congrArg some (by kernel_rfl))
  f320 := Tryz.func217.trans (congrArg some (by kernel_rfl))
  f321 := Tryz.func212.trans (congrArg some (by kernel_rfl))
  f322 := Tryz.func213.trans (congrArg some (by kernel_rfl))
  f337 := Tryz.func219.trans (congrArg some (by kernel_rfl))
  f338 := Tryz.func220.trans (congrArg some (by kernel_rfl))
  t0 := Tryz.underlying0
  a0 := Tryz.isAgg0
  z0 := Tryz.sizeOf0
  v0 := Tryz.zeroValue0
  t2 := Tryz.underlying2
  a2 := Tryz.isAgg2
  z2 := Tryz.sizeOf2
  v2 := Tryz.zeroValue2
  t3 := Tryz.underlying3
  a3 := Tryz.isAgg3
  z3 := Tryz.sizeOf3
  v3 := Tryz.zeroValue3
  t4 := Tryz.underlying4
  a4 := Tryz.isAgg4
  z4 := Tryz.sizeOf4
  v4 := Tryz.zeroValue4
  t5 := Tryz.underlying5
  a5 := Tryz.isAgg5
  z5 := Tryz.sizeOf5
  v5 := Tryz.zeroValue5
  t9 := Tryz.underlying9
  a9 := Tryz.isAgg9
  z9 := Tryz.sizeOf9
  v9 := Tryz.zeroValue9
  t20 := Tryz.underlying20
  a20 := Tryz.isAgg20
  z20 := Tryz.sizeOf20
  v20 := Tryz.zeroValue20
  t21 := Tryz.underlying21
  a21 := Tryz.isAgg21
  z21 := Tryz.sizeOf21
  v21 := Tryz.zeroValue21
  t37 := Tryz.underlying73
  a37 := Tryz.isAgg73
  z37 := Tryz.sizeOf73
  v37 := Tryz.zeroValue73
  t46 := Tryz.underlying138
  a46 := Tryz.isAgg138
  z46 := Tryz.sizeOf138
  v46 := Tryz.zeroValue138
  t51 := Tryz.underlying155
  a51 := Tryz.isAgg155
  z51 := Tryz.sizeOf155
  v51 := Tryz.zeroValue155
  t53 := Tryz.underlying184
  a53 := Tryz.isAgg184
  z53 := Tryz.sizeOf184
  v53 := Tryz.zeroValue184
  t75 := Tryz.underlying82
  a75 := Tryz.isAgg82
  z75 := Tryz.sizeOf82
  v75 := Tryz.zeroValue82
  t76 := Tryz.underlying83
  a76 := Tryz.isAgg83
  z76 := Tryz.sizeOf83
  v76 := Tryz.zeroValue83
  t85 := Tryz.underlying207
  a85 := Tryz.isAgg207
  z85 := Tryz.sizeOf207
  v85 := Tryz.zeroValue207
  t127 := Tryz.underlying129
  a127 := Tryz.isAgg129
  z127 := Tryz.sizeOf129
  v127 := Tryz.zeroValue129
  t143 := Tryz.underlying242
  a143 := Tryz.isAgg242
  z143 := Tryz.sizeOf242
  v143 := Tryz.zeroValue242
  t145 := Tryz.underlying244
  a145 := Tryz.isAgg244
  z145 := Tryz.sizeOf244
  v145 := Tryz.zeroValue244
  t167 := Tryz.underlying206
  a167 := Tryz.isAgg206
  z167 := Tryz.sizeOf206
  v167 := Tryz.zeroValue206
  t168 := Tryz.underlying209
  a168 := Tryz.isAgg209
  z168 := Tryz.sizeOf209
  v168 := Tryz.zeroValue209
  t171 := Tryz.underlying231
  a171 := Tryz.isAgg231
  z171 := Tryz.sizeOf231
  v171 := Tryz.zeroValue231
  t173 := Tryz.underlying233
  a173 := Tryz.isAgg233
  z173 := Tryz.sizeOf233
  v173 := Tryz.zeroValue233
  t175 := Tryz.underlying226
  a175 := Tryz.isAgg226
  z175 := Tryz.sizeOf226
  v175 := Tryz.zeroValue226
  t210 := Tryz.underlying229
  a210 := Tryz.isAgg229
  z210 := Tryz.sizeOf229
  v210 := Tryz.zeroValue229
  t212 := Tryz.underlying246
  a212 := Tryz.isAgg246
  z212 := Tryz.sizeOf246
  v212 := Tryz.zeroValue246
  t213 := Tryz.underlying247
  a213 := Tryz.isAgg247
  z213 := Tryz.sizeOf247
  t232 := Tryz.underlying250
  a232 := Tryz.isAgg250
  z232 := Tryz.sizeOf250
  v232 := Tryz.zeroValue250
  t233 := Tryz.underlying251
  a233 := Tryz.isAgg251
  z233 := Tryz.sizeOf251
  v233 := Tryz.zeroValue251
  g15 := by kernel_rfl
  g16 := by kernel_rfl
  g17 := by kernel_rfl
  g18 := by kernel_rfl
  g19 := by kernel_rfl
  t80 := Tryz.underlying85
  a80 := Tryz.isAgg85
  z80 := Tryz.sizeOf85
  v80 := Tryz.zeroValue85
  i0 := by kernel_rfl
  i2 := by kernel_rfl
  i3 := by kernel_rfl
  i4 := by kernel_rfl
  i5 := by kernel_rfl
  i9 := by kernel_rfl
  i20 := by kernel_rfl
  i21 := by kernel_rfl
  i37 := by kernel_rfl
  i46 := by kernel_rfl
  i51 := by kernel_rfl
  i53 := by kernel_rfl
  i75 := by kernel_rfl
  i76 := by kernel_rfl
  i80 := by kernel_rfl
  i85 := by kernel_rfl
  i127 := by kernel_rfl
  i143 := by kernel_rfl
  i145 := by kernel_rfl
  i167 := by kernel_rfl
  i168 := by kernel_rfl
  i171 := by kernel_rfl
  i173 := by kernel_rfl
  i175 := by kernel_rfl
  i210 := by kernel_rfl
  i212 := by kernel_rfl
  i232 := by kernel_rfl
  i233 := by kernel_rfl
  m15 := by kernel_rfl
  m16 := by kernel_rfl
  m17 := by kernel_rfl
  m18 := by kernel_rfl
  m19 := by kernel_rfl
  c0 := by kernel_rfl
  c2 := by kernel_rfl
  c3 := by kernel_rfl
  c4 := by kernel_rfl
  c5 := by kernel_rfl
  c9 := by kernel_rfl
  c20 := by kernel_rfl
  c21 := by kernel_rfl
  c37 := by kernel_rfl
  c46 := by kernel_rfl
  c51 := by kernel_rfl
  c53 := by kernel_rfl
  c75 := by kernel_rfl
  c76 := by kernel_rfl
  c80 := by kernel_rfl
  c85 := by kernel_rfl
  c127 := by kernel_rfl
  c143 := by kernel_rfl
  c145 := by kernel_rfl
  c167 := by kernel_rfl
  c168 := by kernel_rfl
  c171 := by kernel_rfl
  c173 := by kernel_rfl
  c175 := by kernel_rfl
  c210 := by kernel_rfl
  c212 := by kernel_rfl
  c213 := by kernel_rfl
  c232 := by kernel_rfl
  c233 := by kernel_rfl }
open Go.RowKit in
theorem Tryz.strconv_Atoi_ok (s : ByteArray) (hmax : s.size ≤ 9223372036854775806) (v : Int) (h : Lib.atoiAll s.data.toList = .ok v) (w : World) :
    Calls Tryz.prog 108 #[.string s] w fun e w' => e = .returned (.tuple #[.int .i64 v, .nilIface]) ∧ (w' = w ∨ ∃ t, w' = Lib.bytesWorld w 5 t) := Any.strconv_Atoi_ok Tryz.laysC172 s hmax v h w
open Go.RowKit in
theorem Tryz.strconv_Atoi_syntax (s : ByteArray) (hlim : s.size ≤ 281474976710656) (h : Lib.atoiAll s.data.toList = Lib.NumEnd.syntax) (ev : Value) (w : World) (hv : w.cell? ⟨6, 0, none⟩ = some ev) (hev : ev = .nilIface ∨ ∃ te pe, ev = .iface te pe) :
    Calls Tryz.prog 108 #[.string s] w fun e w' => ∃ N, e = .returned (.tuple #[.int .i64 (0), .iface 209 (.pointer (some ⟨N, 0, none⟩))]) ∧ w.heap.size ≤ N ∧ w'.heap[N]? = some (.cells #[.string ⟨#[65, 116, 111, 105]⟩, .string s, ev] 229 (0, 0)) ∧ Below w.heap.size w w' := Any.strconv_Atoi_syntax Tryz.laysC172 s hlim h ev w hv hev
open Go.RowKit in
theorem Tryz.strconv_Atoi_range (s : ByteArray) (hlim : s.size ≤ 281474976710656) (h : Lib.atoiAll s.data.toList = .range) (ev : Value) (w : World) (hv : w.cell? ⟨7, 0, none⟩ = some ev) (hev : ev = .nilIface ∨ ∃ te pe, ev = .iface te pe) :
    Calls Tryz.prog 108 #[.string s] w fun e w' => ∃ N, e = .returned (.tuple #[.int .i64 (Lib.atoiSat s.data.toList), .iface 209 (.pointer (some ⟨N, 0, none⟩))]) ∧ w.heap.size ≤ N ∧ w'.heap[N]? = some (.cells #[.string ⟨#[65, 116, 111, 105]⟩, .string s, ev] 229 (0, 0)) ∧ Below w.heap.size w w' := Any.strconv_Atoi_range Tryz.laysC172 s hlim h ev w hv hev
def Tryz.laysM155_ren : Go.Shelf.Ren := ⟨fun | 155 => 13 | 154 => 49 | 138 => 105 | 165 => 94 | 143 => 106 | 166 => 47 | 197 => 107 | 169 => 48 | 195 => 148 | 218 => 149 | 240 => 104 | 241 => 139 | 219 => 150 | 260 => 151 | 276 => 147 | 277 => 171 | 217 => 157 | 225 => 179 | 224 => 180 | 267 => 181 | 266 => 188 | 314 => 199 | n => n, fun | 9 => 9 | 3 => 3 | 4 => 4 | 72 => 75 | 0 => 0 | 76 => 83 | 105 => 130 | 21 => 21 | 5 => 5 | 70 => 72 | 20 => 20 | 37 => 73 | 75 => 82 | 127 => 129 | 164 => 169 | 46 => 138 | 119 => 121 | 139 => 205 | 138 => 204 | 146 => 224 | 51 => 155 | 80 => 85 | n => n, fun | 1 => 3 | 3 => 4 | 4 => 5 | n => n⟩
theorem Tryz.laysM155 : Go.Proofs.LaysM.n155 Tryz.prog Tryz.laysM155_ren := {
  mixed := by kernel_rfl
  f138 := Tryz.func105.trans (congrArg some (by kernel_rfl))
  f143 := Tryz.func106.trans (congrArg some (by kernel_rfl))
  f154 := Tryz.func49.trans (congrArg some (by kernel_rfl))
  f155 := Tryz.func13.trans (congrArg some (by kernel_rfl))
  f165 := Tryz.func94.trans (congrArg some (by kernel_rfl))
  f166 := Tryz.func47.trans (congrArg some (by kernel_rfl))
  f169 := Tryz.func48.trans (congrArg some (by kernel_rfl))
  f195 := Tryz.func148.trans (congrArg some (by kernel_rfl))
  f197 := Tryz.func107.trans (congrArg some (by kernel_rfl))
  f217 := Tryz.func157.trans (congrArg some (by kernel_rfl))
  f218 := Tryz.func149.trans (congrArg some (by kernel_rfl))
  f219 := Tryz.func150.trans (congrArg some (by kernel_rfl))
  f224 := Tryz.func180.trans (congrArg some (by kernel_rfl))
  f225 := Tryz.func179.trans (congrArg some (by kernel_rfl))
  f240 := Tryz.func104.trans (congrArg some (by kernel_rfl))
  f241 := Tryz.func139.trans (congrArg some (by kernel_rfl))
  f260 := Tryz.func151.trans (congrArg some (by kernel_rfl))
  f266 := Tryz.func188.trans (congrArg some (by kernel_rfl))
  f267 := Tryz.func181.trans (congrArg some (by kernel_rfl))
  f276 := Tryz.func147.trans (congrArg some (by kernel_rfl))
  f277 := Tryz.func171.trans (congrArg some (by kernel_rfl))
  f314 := Tryz.func199.trans (congrArg some (by kernel_rfl))
  t0 := Tryz.underlying0
  a0 := Tryz.isAgg0
  z0 := Tryz.sizeOf0
  v0 := Tryz.zeroValue0
  t3 := Tryz.underlying3
  a3 := Tryz.isAgg3
  z3 := Tryz.sizeOf3
  v3 := Tryz.zeroValue3
  t4 := Tryz.underlying4
  a4 := Tryz.isAgg4
  z4 := Tryz.sizeOf4
  v4 := Tryz.zeroValue4
  t5 := Tryz.underlying5
  a5 := Tryz.isAgg5
  z5 := Tryz.sizeOf5
  v5 := Tryz.zeroValue5
  t9 := Tryz.underlying9
  a9 := Tryz.isAgg9
  z9 := Tryz.sizeOf9
  v9 := Tryz.zeroValue9
  t20 := Tryz.underlying20
  a20 := Tryz.isAgg20
  z20 := Tryz.sizeOf20
  v20 := Tryz.zeroValue20
  t21 := Tryz.underlying21
  a21 := Tryz.isAgg21
  z21 := Tryz.sizeOf21
  v21 := Tryz.zeroValue21
  t37 := Tryz.underlying73
  a37 := Tryz.isAgg73
  z37 := Tryz.sizeOf73
  v37 := Tryz.zeroValue73
  t46 := Tryz.underlying138
  a46 := Tryz.isAgg138
  z46 := Tryz.sizeOf138
  v46 := Tryz.zeroValue138
  t51 := Tryz.underlying155
  a51 := Tryz.isAgg155
  z51 := Tryz.sizeOf155
  v51 := Tryz.zeroValue155
  t70 := Tryz.underlying72
  a70 := Tryz.isAgg72
  z70 := Tryz.sizeOf72
  v70 := Tryz.zeroValue72
  t72 := Tryz.underlying75
  a72 := Tryz.isAgg75
  z72 := Tryz.sizeOf75
  v72 := Tryz.zeroValue75
  t75 := Tryz.underlying82
  a75 := Tryz.isAgg82
  z75 := Tryz.sizeOf82
  v75 := Tryz.zeroValue82
  t76 := Tryz.underlying83
  a76 := Tryz.isAgg83
  z76 := Tryz.sizeOf83
  v76 := Tryz.zeroValue83
  t105 := Tryz.underlying130
  a105 := Tryz.isAgg130
  z105 := Tryz.sizeOf130
  v105 := Tryz.zeroValue130
  t119 := Tryz.underlying121
  a119 := Tryz.isAgg121
  z119 := Tryz.sizeOf121
  t127 := Tryz.underlying129
  a127 := Tryz.isAgg129
  z127 := Tryz.sizeOf129
  v127 := Tryz.zeroValue129
  t138 := Tryz.underlying204
  a138 := Tryz.isAgg204
  z138 := Tryz.sizeOf204
  v138 := Tryz.zeroValue204
  t139 := Tryz.underlying205
  a139 := Tryz.isAgg205
  z139 := Tryz.sizeOf205
  v139 := Tryz.zeroValue205
  t146 := Tryz.underlying224
  a146 := Tryz.isAgg224
  z146 := Tryz.sizeOf224
  v146 := Tryz.zeroValue224
  t164 := Tryz.underlying169
  a164 := Tryz.isAgg169
  z164 := Tryz.sizeOf169
  v164 := Tryz.zeroValue169
  g1 := by kernel_rfl
  g3 := by kernel_rfl
  g4 := by kernel_rfl
  t80 := Tryz.underlying85
  a80 := Tryz.isAgg85
  z80 := Tryz.sizeOf85
  v80 := Tryz.zeroValue85
  i0 := by kernel_rfl
  i3 := by kernel_rfl
  i4 := by kernel_rfl
  i5 := by kernel_rfl
  i9 := by kernel_rfl
  i20 := by kernel_rfl
  i21 := by kernel_rfl
  i37 := by kernel_rfl
  i46 := by kernel_rfl
  i51 := by kernel_rfl
  i70 := by kernel_rfl
  i72 := by kernel_rfl
  i75 := by kernel_rfl
  i76 := by kernel_rfl
  i80 := by kernel_rfl
  i105 := by kernel_rfl
  i127 := by kernel_rfl
  i138 := by kernel_rfl
  i139 := by kernel_rfl
  i146 := by kernel_rfl
  i164 := by kernel_rfl
  m1 := by kernel_rfl
  s1_3 := fun w h => Go.Proofs.cell_of_shapedOpen_int (zero := #[.int .i64 0]) (t := 3) h (of_decide_eq_true (by kernel_rfl)) (by kernel_rfl) rfl (by kernel_rfl) (by kernel_rfl) Tryz.underlying3
  m3 := by kernel_rfl
  m4 := by kernel_rfl }
def Tryz.lays194_ren : Go.Shelf.Ren := ⟨fun | 194 => 65 | n => n, fun | 31 => 48 | 9 => 9 | 3 => 3 | 4 => 4 | 0 => 0 | n => n, fun | n => n⟩
theorem Tryz.lays194 : Go.Proofs.Lays.n194 Tryz.prog Tryz.lays194_ren := {
  mixed := by kernel_rfl
  f194 := Tryz.func65.trans (congrArg some (by kernel_rfl))
  t0 := Tryz.underlying0
  a0 := Tryz.isAgg0
  z0 := Tryz.sizeOf0
  v0 := Tryz.zeroValue0
  t3 := Tryz.underlying3
  a3 := Tryz.isAgg3
  z3 := Tryz.sizeOf3
  v3 := Tryz.zeroValue3
  t4 := Tryz.underlying4
  a4 := Tryz.isAgg4
  z4 := Tryz.sizeOf4
  v4 := Tryz.zeroValue4
  t9 := Tryz.underlying9
  a9 := Tryz.isAgg9
  z9 := Tryz.sizeOf9
  v9 := Tryz.zeroValue9
  t31 := Tryz.underlying48
  a31 := Tryz.isAgg48
  z31 := Tryz.sizeOf48
  v31 := Tryz.zeroValue48 }
open Go.RowKit Go.Lib Go.Sort in
theorem Tryz.slices_Compact_string_empty (a : Option Addr) (cap : Nat) (w : World) :
    Calls Tryz.prog 65 #[.slice a 0 cap] w fun e w' => e = .returned (.slice a 0 cap) ∧ w' = w := Any.slices_Compact_string_empty Tryz.lays194 a cap w
open Go.RowKit Go.Lib Go.Sort in
theorem Tryz.slices_Compact_string_cells (b off n c : Nat) (Sx : Nat → ByteArray) (w : World) (hbig : n ≤ 9223372036854775807) (hcap : n ≤ c) (hc : ∀ i, i < n → w.cell? ⟨b, off + i, none⟩ = some (.string (Sx i))) (hf : ∀ j, j < n → w.frozen? ⟨b, off + j, none⟩ = false) :
    Calls Tryz.prog 65 #[.slice (some ⟨b, off, none⟩) n c] w fun e w' => e = .returned (.slice (some ⟨b, off, none⟩) (Lib.compact (Lib.strsOf Sx n)).length c) ∧ ∃ q, w' = (w.drewN q).setCells b off ((Lib.compact (Lib.strsOf Sx n) ++ List.replicate (n - (Lib.compact (Lib.strsOf Sx n)).length) []).map encStr) := Any.slices_Compact_string_cells Tryz.lays194 b off n c Sx w hbig hcap hc hf
def Tryz.laysSlF6_f64_ren : Go.Shelf.Ren := ⟨fun | 6 => 64 | 15 => 118 | 14 => 117 | 28 => 167 | 29 => 168 | 20 => 159 | 21 => 160 | 22 => 161 | 23 => 162 | 24 => 163 | 25 => 164 | 26 => 165 | 27 => 166 | 46 => 190 | 47 => 191 | 48 => 192 | 49 => 193 | 50 => 194 | 57 => 209 | n => n, fun | 22 => 48 | 24 => 9 | 25 => 52 | 3 => 3 | 39 => 138 | 0 => 0 | 53 => 155 | 55 => 184 | 4 => 4 | 46 => 177 | 45 => 176 | 50 => 158 | 5 => 5 | 9 => 9 | 66 => 216 | 70 => 220 | 76 => 236 | 77 => 237 | n => n, fun | n => n⟩
theorem Tryz.laysSlF6_f64 : Go.Proofs.SlLaysF.n6 Tryz.prog Tryz.laysSlF6_f64_ren := {
  mixed := by kernel_rfl
  f6 := ⟨Tryz.f64.name, by decide, Tryz.func64.trans (congrArg some (by kernel_rfl))⟩
  f14 := ⟨Tryz.f117.name, by decide, Tryz.func117.trans (congrArg some (by kernel_rfl))⟩
  f15 := Tryz.func118.trans (congrArg some (by kernel_rfl))
  f20 := ⟨Tryz.f159.name, by decide, Tryz.func159.trans (congrArg some (by kernel_rfl))⟩
  f21 := ⟨Tryz.f160.name, by decide, Tryz.func160.trans (congrArg some (by kernel_rfl))⟩
  f22 := ⟨Tryz.f161.name, by decide, Tryz.func161.trans (congrArg some (by kernel_rfl))⟩
  f23 := ⟨Tryz.f162.name, by decide, Tryz.func162.trans (congrArg some (by kernel_rfl))⟩
  f24 := ⟨Tryz.f163.name, by decide, Tryz.func163.trans (congrArg some (by kernel_rfl))⟩
  f25 := ⟨Tryz.f164.name, by decide, Tryz.func164.trans (congrArg some (by kernel_rfl))⟩
  f26 := ⟨Tryz.f165.name, by decide, Tryz.func165.trans (congrArg some (by kernel_rfl))⟩
  f27 := ⟨Tryz.f166.name, by decide, Tryz.func166.trans (congrArg some (by kernel_rfl))⟩
  f28 := Tryz.func167.trans (congrArg some (by kernel_rfl))
  f29 := Tryz.func168.trans (congrArg some (by kernel_rfl))
  f46 := ⟨Tryz.f190.name, by decide, Tryz.func190.trans (congrArg some (by kernel_rfl))⟩
  f47 := Tryz.func191.trans (congrArg some (by kernel_rfl))
  f48 := Tryz.func192.trans (congrArg some (by kernel_rfl))
  f49 := ⟨Tryz.f193.name, by decide, Tryz.func193.trans (congrArg some (by kernel_rfl))⟩
  f50 := ⟨Tryz.f194.name, by decide, Tryz.func194.trans (congrArg some (by kernel_rfl))⟩
  f57 := ⟨Tryz.f209.name, by decide, Tryz.func209.trans (congrArg some (by kernel_rfl))⟩
  t0 := Tryz.underlying0
  a0 := Tryz.isAgg0
  z0 := Tryz.sizeOf0
  v0 := Tryz.zeroValue0
  t3 := Tryz.underlying3
  a3 := Tryz.isAgg3
  z3 := Tryz.sizeOf3
  v3 := Tryz.zeroValue3
  t4 := Tryz.underlying4
  a4 := Tryz.isAgg4
  z4 := Tryz.sizeOf4
  v4 := Tryz.zeroValue4
  t5 := Tryz.underlying5
  a5 := Tryz.isAgg5
  z5 := Tryz.sizeOf5
  v5 := Tryz.zeroValue5
  t9 := Tryz.underlying9
  a9 := Tryz.isAgg9
  z9 := Tryz.sizeOf9
  v9 := Tryz.zeroValue9
  t22 := Tryz.underlying48
  a22 := Tryz.isAgg48
  z22 := Tryz.sizeOf48
  v22 := Tryz.zeroValue48
  a24 := Tryz.isAgg9
  z24 := Tryz.sizeOf9
  t25 := Tryz.underlying52
  a25 := Tryz.isAgg52
  z25 := Tryz.sizeOf52
  v25 := Tryz.zeroValue52
  t39 := Tryz.underlying138
  a39 := Tryz.isAgg138
  z39 := Tryz.sizeOf138
  v39 := Tryz.zeroValue138
  t45 := Tryz.underlying176
  a45 := Tryz.isAgg176
  z45 := Tryz.sizeOf176
  v45 := Tryz.zeroValue176
  t46 := Tryz.underlying177
  a46 := Tryz.isAgg177
  z46 := Tryz.sizeOf177
  v46 := Tryz.zeroValue177
  t50 := Tryz.underlying158
  a50 := Tryz.isAgg158
  z50 := Tryz.sizeOf158
  v50 := Tryz.zeroValue158
  t53 := Tryz.underlying155
  a53 := Tryz.isAgg155
  z53 := Tryz.sizeOf155
  v53 := Tryz.zeroValue155
  t55 := Tryz.underlying184
  a55 := Tryz.isAgg184
  z55 := Tryz.sizeOf184
  v55 := Tryz.zeroValue184
  t66 := Tryz.underlying216
  a66 := Tryz.isAgg216
  z66 := Tryz.sizeOf216
  v66 := Tryz.zeroValue216
  t70 := Tryz.underlying220
  a70 := Tryz.isAgg220
  z70 := Tryz.sizeOf220
  v70 := Tryz.zeroValue220
  t76 := Tryz.underlying236
  a76 := Tryz.isAgg236
  z76 := Tryz.sizeOf236
  v76 := Tryz.zeroValue236
  t77 := Tryz.underlying237
  a77 := Tryz.isAgg237
  z77 := Tryz.sizeOf237
  v77 := Tryz.zeroValue237 }
open Go.RowKit Go.Lib Go.Sort in
theorem Tryz.slices_SortFunc {α : Type} [Inhabited α] (enc : α → Value) (h1 : OneCell enc) (cf : α → α → Int) (hO : SWO (ltOf cf)) (g : Nat) (cb : Array Value) (blk off cap : Nat) (d : Array α) (w : World) (eg : ∀ args w, (callFunc g args).run Tryz.prog w = .ok (.enter g args) w) (hcmp : CmpLays1 Tryz.prog g cb enc cf blk off d.size w) (hH : Holds enc w blk off d) (hblk : blk < w.heap.size) (hsz : d.size < 4611686018427387904) :
    Calls Tryz.prog 64 #[.slice (some ⟨blk, off, none⟩) d.size cap, .func (.func g) #[] cb] w fun e w' =>
      e = .returned (.tuple #[]) ∧ ∃ d' n os, PermIn 0 d.size d d' ∧ SortedIn (ltOf cf) 0 d.size d' ∧ w' = sortWorld enc w blk off n d' os := Any.slices_SortFunc Tryz.laysSlF6_f64 enc h1 cf hO g cb blk off cap d w eg hcmp hH hblk hsz
end Go.Proofs
