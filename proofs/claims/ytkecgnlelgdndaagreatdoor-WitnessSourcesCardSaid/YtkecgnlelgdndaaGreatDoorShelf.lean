/- The contracts of the library's functions, laid by program at this translation. -/
import Derived.Shelf.Strings.Builder1
import Derived.Shelf.Strings.Builder2
import Derived.Shelf.Strings.Trim
import Derived.Shelf.Small.Utf8
import Derived.Shelf.Small.Strs
import Derived.Shelf.Small.Wraps
import Derived.Shelf.Strings.BuilderF
import Derived.Shelf.Strings.BuilderK
import Derived.Shelf.Strings.Builder2Cap
import Derived.Shelf.Strconv.Atoi
import Derived.Shelf.Strconv.Itoa0
import Derived.Shelf.Strconv.Itoa1
import Derived.Shelf.LaysM
import Derived.Shelf.Strconv.Itoa2
import Derived.Shelf.Strconv.Itoa3
import Derived.Shelf.Strconv.AtoiErrFast
import Derived.Shelf.Strconv.ParseIntEmpty
import Derived.Shelf.Strconv.AtoiFail
import Derived.Shelf.Strconv.Clone
import Derived.Shelf.Strconv.SyntaxError
import Derived.Shelf.LaysC
import Derived.Shelf.Strconv.ToError
import Derived.Shelf.Strconv.AtoiErr
import Derived.Shelf.Strconv.Lower
import Derived.Shelf.Strconv.ParseUint10
import Derived.Shelf.Strconv.ParseUint10Empty
import Derived.Shelf.Strconv.ParseUint10Any
import Derived.Shelf.Strconv.ParseInt10
import Derived.Shelf.Strconv.AtoiLong
import Derived.Shelf.Strconv.AtoiInnerAll
import Derived.Shelf.Strconv.RangeError
import Derived.Shelf.Strconv.ToErrorRange
import Derived.Shelf.Strconv.AtoiAll
import Derived.Shelf.Strconv.ErrVarAll
import Derived.Shelf.Strings.Search1
import Derived.Shelf.Strings.Search2
import Derived.Shelf.Strings.Cut
import Derived.Shelf.Strings.Shaped
import Derived.Shelf.Strings.Prefix
import Derived.Shelf.Strings.Runes
import Derived.Shelf.Strings.IndexAny
import Derived.Shelf.Strings.AsciiSet
import Derived.Shelf.Strings.IndexAnyAll
import Derived.Shelf.Bits.Mul64
import Derived.Shelf.Strings.Repeat
import Derived.Shelf.Unicode.DecodeSlow
import Derived.Shelf.Strings.BuilderCap
import Derived.Shelf.Slices.Turned
import Derived.Shelf.Slices.Equal
import Derived.Shelf.Slices.Empties2
import Derived.Test.YtkecgnlelgdndaaGreatDoorProg
namespace Go.Proofs
open Go.Shelf
def Tryz.lays169_ren : Go.Shelf.Ren := ⟨fun | 169 => 132 | n => n, fun | 70 => 113 | 9 => 9 | 0 => 0 | 72 => 116 | 37 => 114 | 127 => 216 | 3 => 3 | 5 => 5 | n => n, fun | n => n⟩
theorem Tryz.lays169 : Go.Proofs.Lays.n169 Tryz.prog Tryz.lays169_ren := {
  mixed := by kernel_rfl
  f169 := Tryz.func132.trans (congrArg some (by kernel_rfl))
  t0 := Tryz.underlying0
  a0 := Tryz.isAgg0
  z0 := Tryz.sizeOf0
  v0 := Tryz.zeroValue0
  t3 := Tryz.underlying3
  a3 := Tryz.isAgg3
  z3 := Tryz.sizeOf3
  v3 := Tryz.zeroValue3
  t9 := Tryz.underlying9
  a9 := Tryz.isAgg9
  z9 := Tryz.sizeOf9
  v9 := Tryz.zeroValue9
  t37 := Tryz.underlying114
  a37 := Tryz.isAgg114
  z37 := Tryz.sizeOf114
  v37 := Tryz.zeroValue114
  t70 := Tryz.underlying113
  a70 := Tryz.isAgg113
  z70 := Tryz.sizeOf113
  v70 := Tryz.zeroValue113
  t72 := Tryz.underlying116
  a72 := Tryz.isAgg116
  z72 := Tryz.sizeOf116
  v72 := Tryz.zeroValue116
  t127 := Tryz.underlying216
  a127 := Tryz.isAgg216
  z127 := Tryz.sizeOf216
  v127 := Tryz.zeroValue216 }
theorem Tryz.Builder_Extra_169 : Builder.Extra Tryz.prog Tryz.lays169_ren := {
  sizeBuilder := by kernel_rfl
  liesBuilder := by kernel_rfl
  t5 := Tryz.underlying5
  a5 := Tryz.isAgg5
  z5 := Tryz.sizeOf5
  v5 := Tryz.zeroValue5
  infoByte := by kernel_rfl
  cellsByte := by kernel_rfl
  sizeByte := by kernel_rfl
  neB5 := by decide }
open Go.RowKit in
theorem Tryz.Builder_String_any (B b : Nat) (l : List UInt8) (w : World) (h : Lib.IsBuilder 116 5 B b (Lib.byteCells l) w) (hBw : B ≤ w.heap.size) :
    Calls Tryz.prog 132 #[.pointer (some ⟨b, 0, none⟩)] w fun e w' => e = .returned (.string ⟨l.toArray⟩) ∧ Below B w w' := Any.Builder_String_any Tryz.lays169 Tryz.Builder_Extra_169 B b l w h hBw
def Tryz.lays160_ren : Go.Shelf.Ren := ⟨fun | 160 => 92 | 232 => 143 | 231 => 142 | 227 => 144 | 234 => 146 | 233 => 145 | 236 => 148 | 235 => 147 | 228 => 188 | 271 => 191 | 151 => 190 | 197 => 189 | 120 => 225 | 152 => 224 | 260 => 223 | 137 => 220 | 119 => 255 | 224 => 256 | 225 => 257 | 217 => 253 | 266 => 273 | n => n, fun | 9 => 9 | 4 => 4 | 3 => 3 | 5 => 5 | 117 => 181 | 116 => 180 | 0 => 0 | 124 => 184 | 21 => 21 | 105 => 219 | 46 => 226 | 119 => 279 | 139 => 282 | 138 => 281 | n => n, fun | 3 => 2 | 4 => 3 | n => n⟩
theorem Tryz.lays160 : Go.Proofs.Lays.n160 Tryz.prog Tryz.lays160_ren := {
  mixed := by kernel_rfl
  f119 := Tryz.func255.trans (congrArg some (by kernel_rfl))
  f120 := Tryz.func225.trans (congrArg some (by kernel_rfl))
  f137 := Tryz.func220.trans (congrArg some (by kernel_rfl))
  f151 := Tryz.func190.trans (congrArg some (by kernel_rfl))
  f152 := Tryz.func224.trans (congrArg some (by kernel_rfl))
  f160 := Tryz.func92.trans (congrArg some (by kernel_rfl))
  f197 := Tryz.func189.trans (congrArg some (by kernel_rfl))
  f217 := Tryz.func253.trans (congrArg some (by kernel_rfl))
  f224 := Tryz.func256.trans (congrArg some (by kernel_rfl))
  f225 := Tryz.func257.trans (congrArg some (by kernel_rfl))
  f227 := Tryz.func144.trans (congrArg some (by kernel_rfl))
  f228 := Tryz.func188.trans (congrArg some (by kernel_rfl))
  f231 := Tryz.func142.trans (congrArg some (by kernel_rfl))
  f232 := Tryz.func143.trans (congrArg some (by kernel_rfl))
  f233 := Tryz.func145.trans (congrArg some (by kernel_rfl))
  f234 := Tryz.func146.trans (congrArg some (by kernel_rfl))
  f235 := Tryz.func147.trans (congrArg some (by kernel_rfl))
  f236 := Tryz.func148.trans (congrArg some (by kernel_rfl))
  f260 := Tryz.func223.trans (congrArg some (by kernel_rfl))
  f266 := Tryz.func273.trans (congrArg some (by kernel_rfl))
  f271 := Tryz.func191.trans (congrArg some (by kernel_rfl))
  t0 := Tryz.underlying0
  a0 := Tryz.isAgg0
  z0 := Tryz.sizeOf0
  v0 := Tryz.zeroValue0
  t3 := Tryz.underlying3
  a3 := Tryz.isAgg3
  z3 := Tryz.sizeOf3
  v3 := Tryz.zeroValue3
  t4 := Tryz.underlying4
  a4 := Tryz.isAgg4
  z4 := Tryz.sizeOf4
  v4 := Tryz.zeroValue4
  t5 := Tryz.underlying5
  a5 := Tryz.isAgg5
  z5 := Tryz.sizeOf5
  v5 := Tryz.zeroValue5
  t9 := Tryz.underlying9
  a9 := Tryz.isAgg9
  z9 := Tryz.sizeOf9
  v9 := Tryz.zeroValue9
  t21 := Tryz.underlying21
  a21 := Tryz.isAgg21
  z21 := Tryz.sizeOf21
  v21 := Tryz.zeroValue21
  t46 := Tryz.underlying226
  a46 := Tryz.isAgg226
  z46 := Tryz.sizeOf226
  v46 := Tryz.zeroValue226
  t105 := Tryz.underlying219
  a105 := Tryz.isAgg219
  z105 := Tryz.sizeOf219
  v105 := Tryz.zeroValue219
  t116 := Tryz.underlying180
  a116 := Tryz.isAgg180
  z116 := Tryz.sizeOf180
  t117 := Tryz.underlying181
  a117 := Tryz.isAgg181
  z117 := Tryz.sizeOf181
  v117 := Tryz.zeroValue181
  t119 := Tryz.underlying279
  a119 := Tryz.isAgg279
  z119 := Tryz.sizeOf279
  t124 := Tryz.underlying184
  a124 := Tryz.isAgg184
  z124 := Tryz.sizeOf184
  v124 := Tryz.zeroValue184
  t138 := Tryz.underlying281
  a138 := Tryz.isAgg281
  z138 := Tryz.sizeOf281
  v138 := Tryz.zeroValue281
  t139 := Tryz.underlying282
  a139 := Tryz.isAgg282
  z139 := Tryz.sizeOf282
  v139 := Tryz.zeroValue282
  g3 := by kernel_rfl
  g4 := by kernel_rfl }
open Go.RowKit in
theorem Tryz.strings_Trim_one (s : ByteArray) (c : UInt8) (hc : c.toNat < 128) (w : World) (hs : s.size ≤ 9223372036854775807) :
    Calls Tryz.prog 92 #[.string s, .string ⟨#[c]⟩] w fun e w' => e = .returned (.string ⟨(Lib.trimB s.data.toList c).toArray⟩) ∧ (w' = w ∨ w' = w.drew) := Any.strings_Trim_one Tryz.lays160 s c hc w hs
def Tryz.lays119_ren : Go.Shelf.Ren := ⟨fun | 119 => 255 | n => n, fun | 21 => 21 | 4 => 4 | n => n, fun | n => n⟩
theorem Tryz.lays119 : Go.Proofs.Lays.n119 Tryz.prog Tryz.lays119_ren := {
  mixed := by kernel_rfl
  f119 := Tryz.func255.trans (congrArg some (by kernel_rfl))
  t4 := Tryz.underlying4
  a4 := Tryz.isAgg4
  z4 := Tryz.sizeOf4
  v4 := Tryz.zeroValue4
  t21 := Tryz.underlying21
  a21 := Tryz.isAgg21
  z21 := Tryz.sizeOf21
  v21 := Tryz.zeroValue21 }
theorem Tryz.utf8_ValidRune (r : Int) (w : World) :
    Calls Tryz.prog 255 #[.int .i32 r] w fun e w' => e = .returned (.bool (Lib.validRune r)) ∧ w' = w := Any.utf8_ValidRune Tryz.lays119 r w
def Tryz.lays137_ren : Go.Shelf.Ren := ⟨fun | 137 => 220 | 217 => 253 | 266 => 273 | n => n, fun | 9 => 9 | 5 => 5 | 3 => 3 | n => n, fun | n => n⟩
theorem Tryz.lays137 : Go.Proofs.Lays.n137 Tryz.prog Tryz.lays137_ren := {
  mixed := by kernel_rfl
  f137 := Tryz.func220.trans (congrArg some (by kernel_rfl))
  f217 := Tryz.func253.trans (congrArg some (by kernel_rfl))
  f266 := Tryz.func273.trans (congrArg some (by kernel_rfl))
  t3 := Tryz.underlying3
  a3 := Tryz.isAgg3
  z3 := Tryz.sizeOf3
  v3 := Tryz.zeroValue3
  t5 := Tryz.underlying5
  a5 := Tryz.isAgg5
  z5 := Tryz.sizeOf5
  v5 := Tryz.zeroValue5
  t9 := Tryz.underlying9
  a9 := Tryz.isAgg9
  z9 := Tryz.sizeOf9
  v9 := Tryz.zeroValue9 }
open Go.RowKit in
theorem Tryz.strings_IndexByte (s : ByteArray) (c : Int) (w : World) :
    Calls Tryz.prog 220 #[.string s, .int .u8 c] w fun e w' => e = .returned (.int .i64 (Lib.indexByte s.data.toList c.toNat.toUInt8)) ∧ w' = w := Any.strings_IndexByte Tryz.lays137 s c w
def Tryz.lays171_ren : Go.Shelf.Ren := ⟨fun | 171 => 59 | 243 => 109 | 246 => 164 | 283 => 211 | 284 => 212 | 285 => 213 | 286 => 214 | 129 => 244 | 317 => 243 | 318 => 245 | 319 => 246 | 320 => 247 | 337 => 269 | 338 => 270 | n => n, fun | 3 => 3 | 9 => 9 | 2 => 2 | 4 => 4 | 171 => 239 | 0 => 0 | 53 => 240 | 37 => 114 | 5 => 5 | 173 => 243 | 212 => 273 | 51 => 254 | 20 => 20 | 213 => 274 | 46 => 226 | 232 => 306 | 233 => 307 | n => n, fun | 17 => 1 | 18 => 7 | 19 => 8 | n => n⟩
theorem Tryz.lays171 : Go.Proofs.Lays.n171 Tryz.prog Tryz.lays171_ren := {
  mixed := by kernel_rfl
  f129 := Tryz.func244.trans (congrArg some (by kernel_rfl))
  f171 := Tryz.func59.trans (congrArg some (by kernel_rfl))
  f243 := Tryz.func109.trans (congrArg some (by kernel_rfl))
  f246 := Tryz.func164.trans (congrArg some (by kernel_rfl))
  f283 := Tryz.func211.trans (congrArg some (by kernel_rfl))
  f284 := Tryz.func212.trans (congrArg some (by kernel_rfl))
  f285 := Tryz.func213.trans (congrArg some (by kernel_rfl))
  f286 := Tryz.func214.trans (congrArg some (by kernel_rfl))
  f317 := Tryz.func243.trans (congrArg some (by kernel_rfl))
  f318 := Tryz.func245.trans (congrArg some (by kernel_rfl))
  f319 := Tryz.func246.trans (congrArg some (by kernel_rfl))
  f320 := Tryz.func247.trans (congrArg some (by kernel_rfl))
  f337 := Tryz.func269.trans (congrArg some (by kernel_rfl))
  f338 := Tryz.func270.trans (congrArg some (by kernel_rfl))
  t0 := Tryz.underlying0
  a0 := Tryz.isAgg0
  z0 := Tryz.sizeOf0
  v0 := Tryz.zeroValue0
  t2 := Tryz.underlying2
  a2 := Tryz.isAgg2
  z2 := Tryz.sizeOf2
  v2 := Tryz.zeroValue2
  t3 := Tryz.underlying3
  a3 := Tryz.isAgg3
  z3 := Tryz.sizeOf3
  v3 := Tryz.zeroValue3
  t4 := Tryz.underlying4
  a4 := Tryz.isAgg4
  z4 := Tryz.sizeOf4
  v4 := Tryz.zeroValue4
  t5 := Tryz.underlying5
  a5 := Tryz.isAgg5
  z5 := Tryz.sizeOf5
  v5 := Tryz.zeroValue5
  t9 := Tryz.underlying9
  a9 := Tryz.isAgg9
  z9 := Tryz.sizeOf9
  v9 := Tryz.zeroValue9
  t20 := Tryz.underlying20
  a20 := Tryz.isAgg20
  z20 := Tryz.sizeOf20
  v20 := Tryz.zeroValue20
  t37 := Tryz.underlying114
  a37 := Tryz.isAgg114
  z37 := Tryz.sizeOf114
  v37 := Tryz.zeroValue114
  t46 := Tryz.underlying226
  a46 := Tryz.isAgg226
  z46 := Tryz.sizeOf226
  v46 := Tryz.zeroValue226
  t51 := Tryz.underlying254
  a51 := Tryz.isAgg254
  z51 := Tryz.sizeOf254
  v51 := Tryz.zeroValue254
  t53 := Tryz.underlying240
  a53 := Tryz.isAgg240
  z53 := Tryz.sizeOf240
  v53 := Tryz.zeroValue240
  t171 := Tryz.underlying239
  a171 := Tryz.isAgg239
  z171 := Tryz.sizeOf239
  v171 := Tryz.zeroValue239
  t173 := Tryz.underlying243
  a173 := Tryz.isAgg243
  z173 := Tryz.sizeOf243
  v173 := Tryz.zeroValue243
  t212 := Tryz.underlying273
  a212 := Tryz.isAgg273
  z212 := Tryz.sizeOf273
  v212 := Tryz.zeroValue273
  t213 := Tryz.underlying274
  a213 := Tryz.isAgg274
  z213 := Tryz.sizeOf274
  t232 := Tryz.underlying306
  a232 := Tryz.isAgg306
  z232 := Tryz.sizeOf306
  v232 := Tryz.zeroValue306
  t233 := Tryz.underlying307
  a233 := Tryz.isAgg307
  z233 := Tryz.sizeOf307
  v233 := Tryz.zeroValue307
  g17 := by kernel_rfl
  g18 := by kernel_rfl
  g19 := by kernel_rfl }
open Go.RowKit Go.Sort Go.Lib in
theorem Tryz.strconv_Itoa_small (i : Nat) (hi : i < 100) (w : World) :
    Calls Tryz.prog 59 #[.int .i64 i] w fun e w' => e = .returned (.string ⟨(Lib.decDigits i).toArray⟩) ∧ w' = w := Any.strconv_Itoa_small Tryz.lays171 i hi w
def Tryz.laysC172_ren : Go.Shelf.Ren := ⟨fun | 172 => 210 | 244 => 241 | 245 => 242 | 247 => 264 | 279 => 265 | 280 => 266 | 281 => 267 | 282 => 268 | 287 => 279 | 316 => 280 | 171 => 59 | 205 => 281 | 321 => 286 | 322 => 287 | 243 => 109 | 246 => 164 | 283 => 211 | 284 => 212 | 285 => 213 | 286 => 214 | 129 => 244 | 317 => 243 | 318 => 245 | 319 => 246 | 320 => 247 | 337 => 269 | 338 => 270 | n => n, fun | 9 => 9 | 3 => 3 | 75 => 193 | 76 => 194 | 4 => 4 | 5 => 5 | 167 => 287 | 37 => 114 | 0 => 0 | 85 => 288 | 2 => 2 | 168 => 290 | 53 => 240 | 175 => 300 | 46 => 226 | 210 => 304 | 127 => 216 | 145 => 312 | 143 => 310 | 21 => 21 | 171 => 239 | 173 => 243 | 212 => 273 | 51 => 254 | 20 => 20 | 213 => 274 | 232 => 306 | 233 => 307 | 80 => 171 | n => n, fun | 15 => 5 | 16 => 6 | 17 => 1 | 18 => 7 | 19 => 8 | n => n⟩
theorem Tryz.laysC172 : Go.Proofs.LaysC.n172 Tryz.prog Tryz.laysC172_ren := {
  mixed := by kernel_rfl
  f129 := Tryz.func244.trans (congrArg some (by kernel_rfl))
  f171 := Tryz.func59.trans (congrArg some (by kernel_rfl))
  f172 := Tryz.func210.trans (congrArg some (by kernel_rfl))
  f205 := Tryz.func281.trans (congrArg some (by kernel_rfl))
  f243 := Tryz.func109.trans (congrArg some (by kernel_rfl))
  f244 := Tryz.func241.trans (congrArg some (by kernel_rfl))
  f245 := Tryz.func242.trans (congrArg some (by kernel_rfl))
  f246 := Tryz.func164.trans (congrArg some (by kernel_rfl))
  f247 := Tryz.func264.trans (congrArg some (by kernel_rfl))
  f279 := Tryz.func265.trans (congrArg some (by kernel_rfl))
  f280 := Tryz.func266.trans (congrArg some (by kernel_rfl))
  f281 := Tryz.func267.trans (congrArg some (by kernel_rfl))
  f282 := Tryz.func268.trans (congrArg some (by kernel_rfl))
  f283 := Tryz.func211.trans (congrArg some (by kernel_rfl))
  f284 := Tryz.func212.trans (congrArg some (by kernel_rfl))
  f285 := Tryz.func213.trans (congrArg some (by kernel_rfl))
  f286 := Tryz.func214.trans (congrArg some (by kernel_rfl))
  f287 := Tryz.func279.trans (congrArg some (by kernel_rfl))
  f316 := Tryz.func280.trans (congrArg some (by kernel_rfl))
  f317 := Tryz.func243.trans (congrArg some (by kernel_rfl))
  f318 := Tryz.func245.trans (congrArg some (by kernel_rfl))
  f319 := Tryz.func246.trans (congrArg some (by kernel_rfl))
  f320 := Tryz.func247.trans (congrArg some (by kernel_rfl))
  f321 := Tryz.func286.trans (congrArg some (by kernel_rfl))
  f322 := Tryz.func287.trans (congrArg some (by kernel_rfl))
  f337 := Tryz.func269.trans (congrArg some (by kernel_rfl))
  f338 := Tryz.func270.trans (congrArg some (by kernel_rfl))
  t0 := Tryz.underlying0
  a0 := Tryz.isAgg0
  z0 := Tryz.sizeOf0
  v0 := Tryz.zeroValue0
  t2 := Tryz.underlying2
  a2 := Tryz.isAgg2
  z2 := Tryz.sizeOf2
  v2 := Tryz.zeroValue2
  t3 := Tryz.underlying3
  a3 := Tryz.isAgg3
  z3 := Tryz.sizeOf3
  v3 := Tryz.zeroValue3
  t4 := Tryz.underlying4
  a4 := Tryz.isAgg4
  z4 := Tryz.sizeOf4
  v4 := Tryz.zeroValue4
  t5 := Tryz.underlying5
  a5 := Tryz.isAgg5
  z5 := Tryz.sizeOf5
  v5 := Tryz.zeroValue5
  t9 := Tryz.underlying9
  a9 := Tryz.isAgg9
  z9 := Tryz.sizeOf9
  v9 := Tryz.zeroValue9
  t20 := Tryz.underlying20
  a20 := Tryz.isAgg20
  z20 := Tryz.sizeOf20
  v20 := Tryz.zeroValue20
  t21 := Tryz.underlying21
  a21 := Tryz.isAgg21
  z21 := Tryz.sizeOf21
  v21 := Tryz.zeroValue21
  t37 := Tryz.underlying114
  a37 := Tryz.isAgg114
  z37 := Tryz.sizeOf114
  v37 := Tryz.zeroValue114
  t46 := Tryz.underlying226
  a46 := Tryz.isAgg226
  z46 := Tryz.sizeOf226
  v46 := Tryz.zeroValue226
  t51 := Tryz.underlying254
  a51 := Tryz.isAgg254
  z51 := Tryz.sizeOf254
  v51 := Tryz.zeroValue254
  t53 := Tryz.underlying240
  a53 := Tryz.isAgg240
  z53 := Tryz.sizeOf240
  v53 := Tryz.zeroValue240
  t75 := Tryz.underlying193
  a75 := Tryz.isAgg193
  z75 := Tryz.sizeOf193
  v75 := Tryz.zeroValue193
  t76 := Tryz.underlying194
  a76 := Tryz.isAgg194
  z76 := Tryz.sizeOf194
  v76 := Tryz.zeroValue194
  t85 := Tryz.underlying288
  a85 := Tryz.isAgg288
  z85 := Tryz.sizeOf288
  v85 := Tryz.zeroValue288
  t127 := Tryz.underlying216
  a127 := Tryz.isAgg216
  z127 := Tryz.sizeOf216
  v127 := Tryz.zeroValue216
  t143 := Tryz.underlying310
  a143 := Tryz.isAgg310
  z143 := Tryz.sizeOf310
  v143 := Tryz.zeroValue310
  t145 := Tryz.underlying312
  a145 := Tryz.isAgg312
  z145 := Tryz.sizeOf312
  v145 := Tryz.zeroValue312
  t167 := Tryz.underlying287
  a167 := Tryz.isAgg287
  z167 := Tryz.sizeOf287
  v167 := Tryz.zeroValue287
  t168 := Tryz.underlying290
  a168 := Tryz.isAgg290
  z168 := Tryz.sizeOf290
  v168 := Tryz.zeroValue290
  t171 := Tryz.underlying239
  a171 := Tryz.isAgg239
  z171 := Tryz.sizeOf239
  v171 := Tryz.zeroValue239
  t173 := Tryz.underlying243
  a173 := Tryz.isAgg243
  z173 := Tryz.sizeOf243
  v173 := Tryz.zeroValue243
  t175 := Tryz.underlying300
  a175 := Tryz.isAgg300
  z175 := Tryz.sizeOf300
  v175 := Tryz.zeroValue300
  t210 := Tryz.underlying304
  a210 := Tryz.isAgg304
  z210 := Tryz.sizeOf304
  v210 := Tryz.zeroValue304
  t212 := Tryz.underlying273
  a212 := Tryz.isAgg273
  z212 := Tryz.sizeOf273
  v212 := Tryz.zeroValue273
  t213 := Tryz.underlying274
  a213 := Tryz.isAgg274
  z213 := Tryz.sizeOf274
  t232 := Tryz.underlying306
  a232 := Tryz.isAgg306
  z232 := Tryz.sizeOf306
  v232 := Tryz.zeroValue306
  t233 := Tryz.underlying307
  a233 := Tryz.isAgg307
  z233 := Tryz.sizeOf307
  v233 := Tryz.zeroValue307
  g15 := by kernel_rfl
  g16 := by kernel_rfl
  g17 := by kernel_rfl
  g18 := by kernel_rfl
  g19 := by kernel_rfl
  t80 := Tryz.underlying171
  a80 := Tryz.isAgg171
  z80 := Tryz.sizeOf171
  v80 := Tryz.zeroValue171
  i0 := by kernel_rfl
  i2 := by kernel_rfl
  i3 := by kernel_rfl
  i4 := by kernel_rfl
  i5 := by kernel_rfl
  i9 := by kernel_rfl
  i20 := by kernel_rfl
  i21 := by kernel_rfl
  i37 := by kernel_rfl
  i46 := by kernel_rfl
  i51 := by kernel_rfl
  i53 := by kernel_rfl
  i75 := by kernel_rfl
  i76 := by kernel_rfl
  i80 := by kernel_rfl
  i85 := by kernel_rfl
  i127 := by kernel_rfl
  i143 := by kernel_rfl
  i145 := by kernel_rfl
  i167 := by kernel_rfl
  i168 := by kernel_rfl
  i171 := by kernel_rfl
  i173 := by kernel_rfl
  i175 := by kernel_rfl
  i210 := by kernel_rfl
  i212 := by kernel_rfl
  i232 := by kernel_rfl
  i233 := by kernel_rfl
  m15 := by kernel_rfl
  m16 := by kernel_rfl
  m17 := by kernel_rfl
  m18 := by kernel_rfl
  m19 := by kernel_rfl
  c0 := by kernel_rfl
  c2 := by kernel_rfl
  c3 := by kernel_rfl
  c4 := by kernel_rfl
  c5 := by kernel_rfl
  c9 := by kernel_rfl
  c20 := by kernel_rfl
  c21 := by kernel_rfl
  c37 := by kernel_rfl
  c46 := by kernel_rfl
  c51 := by kernel_rfl
  c53 := by kernel_rfl
  c75 := by kernel_rfl
  c76 := by kernel_rfl
  c80 := by kernel_rfl
  c85 := by kernel_rfl
  c127 := by kernel_rfl
  c143 := by kernel_rfl
  c145 := by kernel_rfl
  c167 := by kernel_rfl
  c168 := by kernel_rfl
  c171 := by kernel_rfl
  c173 := by kernel_rfl
  c175 := by kernel_rfl
  c210 := by kernel_rfl
  c212 := by kernel_rfl
  c213 := by kernel_rfl
  c232 := by kernel_rfl
  c233 := by kernel_rfl }
open Go.RowKit in
theorem Tryz.strconv_Atoi_ok (s : ByteArray) (hmax : s.size ≤ 9223372036854775806) (v : Int) (h : Lib.atoiAll s.data.toList = .ok v) (w : World) :
    Calls Tryz.prog 210 #[.string s] w fun e w' => e = .returned (.tuple #[.int .i64 v, .nilIface]) ∧ (w' = w ∨ ∃ t, w' = Lib.bytesWorld w 5 t) := Any.strconv_Atoi_ok Tryz.laysC172 s hmax v h w
open Go.RowKit in
theorem Tryz.strconv_Atoi_syntax (s : ByteArray) (hlim : s.size ≤ 281474976710656) (h : Lib.atoiAll s.data.toList = Lib.NumEnd.syntax) (ev : Value) (w : World) (hv : w.cell? ⟨5, 0, none⟩ = some ev) (hev : ev = .nilIface ∨ ∃ te pe, ev = .iface te pe) :
    Calls Tryz.prog 210 #[.string s] w fun e w' => ∃ N, e = .returned (.tuple #[.int .i64 (0), .iface 290 (.pointer (some ⟨N, 0, none⟩))]) ∧ w.heap.size ≤ N ∧ w'.heap[N]? = some (.cells #[.string ⟨#[65, 116, 111, 105]⟩, .string s, ev] 304 (0, 0)) ∧ Below w.heap.size w w' := Any.strconv_Atoi_syntax Tryz.laysC172 s hlim h ev w hv hev
open Go.RowKit in
theorem Tryz.strconv_Atoi_range (s : ByteArray) (hlim : s.size ≤ 281474976710656) (h : Lib.atoiAll s.data.toList = .range) (ev : Value) (w : World) (hv : w.cell? ⟨6, 0, none⟩ = some ev) (hev : ev = .nilIface ∨ ∃ te pe, ev = .iface te pe) :
    Calls Tryz.prog 210 #[.string s] w fun e w' => ∃ N, e = .returned (.tuple #[.int .i64 (Lib.atoiSat s.data.toList), .iface 290 (.pointer (some ⟨N, 0, none⟩))]) ∧ w.heap.size ≤ N ∧ w'.heap[N]? = some (.cells #[.string ⟨#[65, 116, 111, 105]⟩, .string s, ev] 304 (0, 0)) ∧ Below w.heap.size w w' := Any.strconv_Atoi_range Tryz.laysC172 s hlim h ev w hv hev
def Tryz.lays145_ren : Go.Shelf.Ren := ⟨fun | 145 => 236 | 220 => 262 | 219 => 277 | 217 => 253 | 225 => 257 | 224 => 256 | 267 => 285 | 266 => 273 | 314 => 289 | n => n, fun | 9 => 9 | 4 => 4 | 59 => 265 | 3 => 3 | 5 => 5 | 46 => 226 | 146 => 255 | 51 => 254 | n => n, fun | 1 => 4 | n => n⟩
theorem Tryz.lays145 : Go.Proofs.Lays.n145 Tryz.prog Tryz.lays145_ren := {
  mixed := by kernel_rfl
  f145 := Tryz.func236.trans (congrArg some (by kernel_rfl))
  f217 := Tryz.func253.trans (congrArg some (by kernel_rfl))
  f219 := Tryz.func277.trans (congrArg some (by kernel_rfl))
  f220 := Tryz.func262.trans (congrArg some (by kernel_rfl))
  f224 := Tryz.func256.trans (congrArg some (by kernel_rfl))
  f225 := Tryz.func257.trans (congrArg some (by kernel_rfl))
  f266 := Tryz.func273.trans (congrArg some (by kernel_rfl))
  f267 := Tryz.func285.trans (congrArg some (by kernel_rfl))
  f314 := Tryz.func289.trans (congrArg some (by kernel_rfl))
  t3 := Tryz.underlying3
  a3 := Tryz.isAgg3
  z3 := Tryz.sizeOf3
  v3 := Tryz.zeroValue3
  t4 := Tryz.underlying4
  a4 := Tryz.isAgg4
  z4 := Tryz.sizeOf4
  v4 := Tryz.zeroValue4
  t5 := Tryz.underlying5
  a5 := Tryz.isAgg5
  z5 := Tryz.sizeOf5
  v5 := Tryz.zeroValue5
  t9 := Tryz.underlying9
  a9 := Tryz.isAgg9
  z9 := Tryz.sizeOf9
  v9 := Tryz.zeroValue9
  t46 := Tryz.underlying226
  a46 := Tryz.isAgg226
  z46 := Tryz.sizeOf226
  v46 := Tryz.zeroValue226
  t51 := Tryz.underlying254
  a51 := Tryz.isAgg254
  z51 := Tryz.sizeOf254
  v51 := Tryz.zeroValue254
  t59 := Tryz.underlying265
  a59 := Tryz.isAgg265
  z59 := Tryz.sizeOf265
  v59 := Tryz.zeroValue265
  t146 := Tryz.underlying255
  a146 := Tryz.isAgg255
  z146 := Tryz.sizeOf255
  v146 := Tryz.zeroValue255
  g1 := by kernel_rfl }
open Go.RowKit Go.Lib in
theorem Tryz.strings_Cut (s sep : ByteArray) (m : Int) (w : World) (hs : s.size < 4294967281) (hm : w.cell? ⟨4, 0, none⟩ = some (.int .i64 m)) :
    Calls Tryz.prog 236 #[.string s, .string sep] w fun e w' => e = .returned (.tuple #[.string ⟨(Lib.cut s.data.toList sep.data.toList).1.toArray⟩, .string ⟨(Lib.cut s.data.toList sep.data.toList).2.1.toArray⟩, .bool (Lib.cut s.data.toList sep.data.toList).2.2]) ∧ ∃ n, w' = w.drewN n := Any.strings_Cut Tryz.lays145 s sep m w hs hm
def Tryz.laysM219_ren : Go.Shelf.Ren := ⟨fun | 219 => 277 | 217 => 253 | 225 => 257 | 224 => 256 | 267 => 285 | 266 => 273 | 314 => 289 | n => n, fun | 9 => 9 | 3 => 3 | 4 => 4 | 5 => 5 | 46 => 226 | 146 => 255 | 51 => 254 | n => n, fun | 1 => 4 | n => n⟩
theorem Tryz.laysM219 : Go.Proofs.LaysM.n219 Tryz.prog Tryz.laysM219_ren := {
  mixed := by kernel_rfl
  f217 := Tryz.func253.trans (congrArg some (by kernel_rfl))
  f219 := Tryz.func277.trans (congrArg some (by kernel_rfl))
  f224 := Tryz.func256.trans (congrArg some (by kernel_rfl))
  f225 := Tryz.func257.trans (congrArg some (by kernel_rfl))
  f266 := Tryz.func273.trans (congrArg some (by kernel_rfl))
  f267 := Tryz.func285.trans (congrArg some (by kernel_rfl))
  f314 := Tryz.func289.trans (congrArg some (by kernel_rfl))
  t3 := Tryz.underlying3
  a3 := Tryz.isAgg3
  z3 := Tryz.sizeOf3
  v3 := Tryz.zeroValue3
  t4 := Tryz.underlying4
  a4 := Tryz.isAgg4
  z4 := Tryz.sizeOf4
  v4 := Tryz.zeroValue4
  t5 := Tryz.underlying5
  a5 := Tryz.isAgg5
  z5 := Tryz.sizeOf5
  v5 := Tryz.zeroValue5
  t9 := Tryz.underlying9
  a9 := Tryz.isAgg9
  z9 := Tryz.sizeOf9
  v9 := Tryz.zeroValue9
  t46 := Tryz.underlying226
  a46 := Tryz.isAgg226
  z46 := Tryz.sizeOf226
  v46 := Tryz.zeroValue226
  t51 := Tryz.underlying254
  a51 := Tryz.isAgg254
  z51 := Tryz.sizeOf254
  v51 := Tryz.zeroValue254
  t146 := Tryz.underlying255
  a146 := Tryz.isAgg255
  z146 := Tryz.sizeOf255
  v146 := Tryz.zeroValue255
  g1 := by kernel_rfl
  i3 := by kernel_rfl
  i4 := by kernel_rfl
  i5 := by kernel_rfl
  i9 := by kernel_rfl
  i46 := by kernel_rfl
  i51 := by kernel_rfl
  i146 := by kernel_rfl
  m1 := by kernel_rfl
  s1_3 := fun w h => Go.Proofs.cell_of_shapedOpen_int (zero := #[.int .i64 0]) (t := 3) h (of_decide_eq_true (by kernel_rfl)) (by kernel_rfl) rfl (by kernel_rfl) (by kernel_rfl) Tryz.underlying3 }
def Tryz.lays99_ren : Go.Shelf.Ren := ⟨fun | 99 => 202 | 206 => 230 | n => n, fun | 9 => 9 | 4 => 4 | 3 => 3 | n => n, fun | n => n⟩
theorem Tryz.lays99 : Go.Proofs.Lays.n99 Tryz.prog Tryz.lays99_ren := {
  mixed := by kernel_rfl
  f99 := Tryz.func202.trans (congrArg some (by kernel_rfl))
  f206 := Tryz.func230.trans (congrArg some (by kernel_rfl))
  t3 := Tryz.underlying3
  a3 := Tryz.isAgg3
  z3 := Tryz.sizeOf3
  v3 := Tryz.zeroValue3
  t4 := Tryz.underlying4
  a4 := Tryz.isAgg4
  z4 := Tryz.sizeOf4
  v4 := Tryz.zeroValue4
  t9 := Tryz.underlying9
  a9 := Tryz.isAgg9
  z9 := Tryz.sizeOf9
  v9 := Tryz.zeroValue9 }
open Go.RowKit Go.Lib in
theorem Tryz.strings_HasPrefix (s p : ByteArray) (w : World) :
    Calls Tryz.prog 202 #[.string s, .string p] w fun e w' => e = .returned (.bool (Lib.hasPrefix s.data.toList p.data.toList)) ∧ w' = w := Any.strings_HasPrefix Tryz.lays99 s p w
def Tryz.lays101_ren : Go.Shelf.Ren := ⟨fun | 101 => 233 | 208 => 259 | 206 => 230 | n => n, fun | 9 => 9 | 4 => 4 | 3 => 3 | n => n, fun | n => n⟩
theorem Tryz.lays101 : Go.Proofs.Lays.n101 Tryz.prog Tryz.lays101_ren := {
  mixed := by kernel_rfl
  f101 := Tryz.func233.trans (congrArg some (by kernel_rfl))
  f206 := Tryz.func230.trans (congrArg some (by kernel_rfl))
  f208 := Tryz.func259.trans (congrArg some (by kernel_rfl))
  t3 := Tryz.underlying3
  a3 := Tryz.isAgg3
  z3 := Tryz.sizeOf3
  v3 := Tryz.zeroValue3
  t4 := Tryz.underlying4
  a4 := Tryz.isAgg4
  z4 := Tryz.sizeOf4
  v4 := Tryz.zeroValue4
  t9 := Tryz.underlying9
  a9 := Tryz.isAgg9
  z9 := Tryz.sizeOf9
  v9 := Tryz.zeroValue9 }
open Go.RowKit Go.Lib in
theorem Tryz.strings_TrimPrefix (s p : ByteArray) (w : World) :
    Calls Tryz.prog 233 #[.string s, .string p] w fun e w' => e = .returned (.string ⟨(Lib.trimPrefix s.data.toList p.data.toList).toArray⟩) ∧ w' = w := Any.strings_TrimPrefix Tryz.lays101 s p w
def Tryz.lays102_ren : Go.Shelf.Ren := ⟨fun | 102 => 237 | 209 => 263 | 207 => 278 | n => n, fun | 9 => 9 | 4 => 4 | 3 => 3 | n => n, fun | n => n⟩
theorem Tryz.lays102 : Go.Proofs.Lays.n102 Tryz.prog Tryz.lays102_ren := {
  mixed := by kernel_rfl
  f102 := Tryz.func237.trans (congrArg some (by kernel_rfl))
  f207 := Tryz.func278.trans (congrArg some (by kernel_rfl))
  f209 := Tryz.func263.trans (congrArg some (by kernel_rfl))
  t3 := Tryz.underlying3
  a3 := Tryz.isAgg3
  z3 := Tryz.sizeOf3
  v3 := Tryz.zeroValue3
  t4 := Tryz.underlying4
  a4 := Tryz.isAgg4
  z4 := Tryz.sizeOf4
  v4 := Tryz.zeroValue4
  t9 := Tryz.underlying9
  a9 := Tryz.isAgg9
  z9 := Tryz.sizeOf9
  v9 := Tryz.zeroValue9 }
open Go.RowKit Go.Lib in
theorem Tryz.strings_TrimSuffix (s p : ByteArray) (w : World) (hs : s.size ≤ 9223372036854775807) :
    Calls Tryz.prog 237 #[.string s, .string p] w fun e w' => e = .returned (.string ⟨(Lib.trimSuffix s.data.toList p.data.toList).toArray⟩) ∧ w' = w := Any.strings_TrimSuffix Tryz.lays102 s p w hs
def Tryz.lays152_ren : Go.Shelf.Ren := ⟨fun | 152 => 224 | 137 => 220 | 119 => 255 | 224 => 256 | 225 => 257 | 217 => 253 | 266 => 273 | n => n, fun | 9 => 9 | 21 => 21 | 3 => 3 | 4 => 4 | 5 => 5 | 0 => 0 | 46 => 226 | n => n, fun | n => n⟩
theorem Tryz.lays152 : Go.Proofs.Lays.n152 Tryz.prog Tryz.lays152_ren := {
  mixed := by kernel_rfl
  f119 := Tryz.func255.trans (congrArg some (by kernel_rfl))
  f137 := Tryz.func220.trans (congrArg some (by kernel_rfl))
  f152 := Tryz.func224.trans (congrArg some (by kernel_rfl))
  f217 := Tryz.func253.trans (congrArg some (by kernel_rfl))
  f224 := Tryz.func256.trans (congrArg some (by kernel_rfl))
  f225 := Tryz.func257.trans (congrArg some (by kernel_rfl))
  f266 := Tryz.func273.trans (congrArg some (by kernel_rfl))
  t0 := Tryz.underlying0
  a0 := Tryz.isAgg0
  z0 := Tryz.sizeOf0
  v0 := Tryz.zeroValue0
  t3 := Tryz.underlying3
  a3 := Tryz.isAgg3
  z3 := Tryz.sizeOf3
  v3 := Tryz.zeroValue3
  t4 := Tryz.underlying4
  a4 := Tryz.isAgg4
  z4 := Tryz.sizeOf4
  v4 := Tryz.zeroValue4
  t5 := Tryz.underlying5
  a5 := Tryz.isAgg5
  z5 := Tryz.sizeOf5
  v5 := Tryz.zeroValue5
  t9 := Tryz.underlying9
  a9 := Tryz.isAgg9
  z9 := Tryz.sizeOf9
  v9 := Tryz.zeroValue9
  t21 := Tryz.underlying21
  a21 := Tryz.isAgg21
  z21 := Tryz.sizeOf21
  v21 := Tryz.zeroValue21
  t46 := Tryz.underlying226
  a46 := Tryz.isAgg226
  z46 := Tryz.sizeOf226
  v46 := Tryz.zeroValue226 }
open Go.RowKit Go.Lib in
theorem Tryz.strings_IndexRune_ascii (s : ByteArray) (r : Int) (w : World) (h0 : 0 ≤ r) (h1 : r < 128) :
    Calls Tryz.prog 224 #[.string s, .int .i32 r] w fun e w' => e = .returned (.int .i64 (Lib.indexByte s.data.toList r.toNat.toUInt8)) ∧ w' = w := Any.strings_IndexRune_ascii Tryz.lays152 s r w h0 h1
def Tryz.lays226_ren : Go.Shelf.Ren := ⟨fun | 226 => 260 | n => n, fun | 3 => 3 | 4 => 4 | n => n, fun | n => n⟩
theorem Tryz.lays226 : Go.Proofs.Lays.n226 Tryz.prog Tryz.lays226_ren := {
  mixed := by kernel_rfl
  f226 := Tryz.func260.trans (congrArg some (by kernel_rfl))
  t3 := Tryz.underlying3
  a3 := Tryz.isAgg3
  z3 := Tryz.sizeOf3
  v3 := Tryz.zeroValue3
  t4 := Tryz.underlying4
  a4 := Tryz.isAgg4
  z4 := Tryz.sizeOf4
  v4 := Tryz.zeroValue4 }
open Go.RowKit Go.Lib in
theorem Tryz.strings_shouldUseASCIISet (n : Int) (w : World) :
    Calls Tryz.prog 260 #[.int .i64 n] w fun e w' => e = .returned (.bool (decide (8 < n))) ∧ w' = w := Any.strings_shouldUseASCIISet Tryz.lays226 n w
def Tryz.lays153_ren : Go.Shelf.Ren := ⟨fun | 153 => 234 | 152 => 224 | 226 => 260 | 227 => 144 | 228 => 188 | 137 => 220 | 119 => 255 | 224 => 256 | 225 => 257 | 217 => 253 | 266 => 273 | n => n, fun | 9 => 9 | 3 => 3 | 4 => 4 | 5 => 5 | 21 => 21 | 117 => 181 | 116 => 180 | 0 => 0 | 46 => 226 | 124 => 184 | n => n, fun | n => n⟩
theorem Tryz.lays153 : Go.Proofs.Lays.n153 Tryz.prog Tryz.lays153_ren := {
  mixed := by kernel_rfl
  f119 := Tryz.func255.trans (congrArg some (by kernel_rfl))
  f137 := Tryz.func220.trans (congrArg some (by kernel_rfl))
  f152 := Tryz.func224.trans (congrArg some (by kernel_rfl))
  f153 := Tryz.func234.trans (congrArg some (by kernel_rfl))
  f217 := Tryz.func253.trans (congrArg some (by kernel_rfl))
  f224 := Tryz.func256.trans (congrArg some (by kernel_rfl))
  f225 := Tryz.func257.trans (congrArg some (by kernel_rfl))
  f226 := Tryz.func260.trans (congrArg some (by kernel_rfl))
  f227 := Tryz.func144.trans (congrArg some (by kernel_rfl))
  f228 := Tryz.func188.trans (congrArg some (by kernel_rfl))
  f266 := Tryz.func273.trans (congrArg some (by kernel_rfl))
  t0 := Tryz.underlying0
  a0 := Tryz.isAgg0
  z0 := Tryz.sizeOf0
  v0 := Tryz.zeroValue0
  t3 := Tryz.underlying3
  a3 := Tryz.isAgg3
  z3 := Tryz.sizeOf3
  v3 := Tryz.zeroValue3
  t4 := Tryz.underlying4
  a4 := Tryz.isAgg4
  z4 := Tryz.sizeOf4
  v4 := Tryz.zeroValue4
  t5 := Tryz.underlying5
  a5 := Tryz.isAgg5
  z5 := Tryz.sizeOf5
  v5 := Tryz.zeroValue5
  t9 := Tryz.underlying9
  a9 := Tryz.isAgg9
  z9 := Tryz.sizeOf9
  v9 := Tryz.zeroValue9
  t21 := Tryz.underlying21
  a21 := Tryz.isAgg21
  z21 := Tryz.sizeOf21
  v21 := Tryz.zeroValue21
  t46 := Tryz.underlying226
  a46 := Tryz.isAgg226
  z46 := Tryz.sizeOf226
  v46 := Tryz.zeroValue226
  t116 := Tryz.underlying180
  a116 := Tryz.isAgg180
  z116 := Tryz.sizeOf180
  t117 := Tryz.underlying181
  a117 := Tryz.isAgg181
  z117 := Tryz.sizeOf181
  v117 := Tryz.zeroValue181
  t124 := Tryz.underlying184
  a124 := Tryz.isAgg184
  z124 := Tryz.sizeOf184
  v124 := Tryz.zeroValue184 }
open Go.RowKit Go.Lib in
theorem Tryz.strings_IndexAny_long (hv116 : ∀ w, (zeroValue 180).run Tryz.prog w = .ok (.agg (Array.replicate 256 (.bool false))) w) (s chars : ByteArray) (w : World) (h2 : 2 ≤ chars.size) (h8 : 8 < s.size) (hs : s.size < 4294967281) (hcs : chars.size < 4294967281) (hascii : ∀ (j : Nat) b, chars.data.toList[j]? = some b → b.toNat < 128) :
    Calls Tryz.prog 234 #[.string s, .string chars] w fun e w' => e = .returned (.int .i64 (Lib.indexAny s.data.toList chars.data.toList)) ∧ w' = ((w.alloc (.cells (Lib.setCells chars.data.toList) 180)).alloc (.cells (Lib.setCells chars.data.toList) 180)) := Any.strings_IndexAny_long Tryz.lays153 hv116 (by kernel_rfl) s chars w h2 h8 hs hcs hascii
end Go.Proofs
