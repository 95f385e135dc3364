/- The library's contracts at this seat's translation, in plain words: what the kit's shelf has proved of Go's library, applied to this program's numbers. -/
import Derived.Shelf.Strings.Builder1
import Derived.Shelf.Strings.Builder2
import Derived.Shelf.Strings.Trim
import Derived.Shelf.Small.Utf8
import Derived.Shelf.Small.Bits
import Derived.Shelf.Small.Strs
import Derived.Shelf.Strings.BuilderF
import Derived.Shelf.Strconv.Itoa0
import Derived.Shelf.Strings.Search1
import Derived.Shelf.Strings.Search2
import Derived.Shelf.Strings.Search3
import Derived.Shelf.Strings.Cut
import Derived.Shelf.Strings.Count
import Derived.Shelf.LaysM
import Derived.Shelf.Strings.Shaped
import Derived.Shelf.Strings.Prefix
import Derived.Shelf.Strings.Runes
import Derived.Shelf.Strings.AsciiSet
import Derived.Shelf.Bits.Mul64
import Derived.Shelf.Strings.Repeat
import Derived.Shelf.Unicode.DecodeSlow
import Derived.Shelf.Unicode.DecodeAny
import Derived.Shelf.Slices.Equal
import Derived.Ground.Names2Prog
import Derived.Shelf.Slices.Clone
import Derived.Shelf.Slices.SearchI
import Derived.Shelf.Slices.Empties2
import Derived.Ground.SlgnProg
import Derived.Shelf.SlicesE.Clone
import Derived.Ground.SlgmProg
import Derived.Shelf.SortM.Plain
import Derived.Shelf.SortM.SortNone
import Derived.Test.YtdomphkodeamgaaGreatDoorProg
namespace Go.Proofs
open Go.Shelf
def Tryz.lays160_ren : Go.Shelf.Ren := ⟨fun | 160 => 104 | 232 => 161 | 231 => 160 | 227 => 162 | 234 => 164 | 233 => 163 | 236 => 166 | 235 => 165 | 228 => 243 | 271 => 246 | 151 => 245 | 197 => 244 | 120 => 312 | 152 => 311 | 260 => 310 | 137 => 332 | 119 => 354 | 224 => 355 | 225 => 356 | 217 => 360 | 266 => 370 | n => n, fun | 9 => 9 | 4 => 4 | 3 => 3 | 5 => 5 | 117 => 245 | 116 => 244 | 0 => 0 | 124 => 248 | 21 => 21 | 105 => 334 | 46 => 231 | 119 => 426 | 139 => 429 | 138 => 428 | n => n, fun | 3 => 1 | 4 => 2 | n => n⟩
theorem Tryz.lays160 : Go.Proofs.Lays.n160 Tryz.prog Tryz.lays160_ren := {
  mixed := by kernel_rfl
  f119 := Tryz.func354.trans (congrArg some (by kernel_rfl))
  f120 := Tryz.func312.trans (congrArg some (by kernel_rfl))
  f137 := Tryz.func332.trans (congrArg some (by kernel_rfl))
  f151 := Tryz.func245.trans (congrArg some (by kernel_rfl))
  f152 := Tryz.func311.trans (congrArg some (by kernel_rfl))
  f160 := Tryz.func104.trans (congrArg some (by kernel_rfl))
  f197 := Tryz.func244.trans (congrArg some (by kernel_rfl))
  f217 := Tryz.func360.trans (congrArg some (by kernel_rfl))
  f224 := Tryz.func355.trans (congrArg some (by kernel_rfl))
  f225 := Tryz.func356.trans (congrArg some (by kernel_rfl))
  f227 := Tryz.func162.trans (congrArg some (by kernel_rfl))
  f228 := Tryz.func243.trans (congrArg some (by kernel_rfl))
  f231 := Tryz.func160.trans (congrArg some (by kernel_rfl))
  f232 := Tryz.func161.trans (congrArg some (by kernel_rfl))
  f233 := Tryz.func163.trans (congrArg some (by kernel_rfl))
  f234 := Tryz.func164.trans (congrArg some (by kernel_rfl))
  f235 := Tryz.func165.trans (congrArg some (by kernel_rfl))
  f236 := Tryz.func166.trans (congrArg some (by kernel_rfl))
  f260 := Tryz.func310.trans (congrArg some (by kernel_rfl))
  f266 := Tryz.func370.trans (congrArg some (by kernel_rfl))
  f271 := Tryz.func246.trans (congrArg some (by kernel_rfl))
  t0 := Tryz.underlying0
  a0 := Tryz.isAgg0
  z0 := Tryz.sizeOf0
  v0 := Tryz.zeroValue0
  t3 := Tryz.underlying3
  a3 := Tryz.isAgg3
  z3 := Tryz.sizeOf3
  v3 := Tryz.zeroValue3
  t4 := Tryz.underlying4
  a4 := Tryz.isAgg4
  z4 := Tryz.sizeOf4
  v4 := Tryz.zeroValue4
  t5 := Tryz.underlying5
  a5 := Tryz.isAgg5
  z5 := Tryz.sizeOf5
  v5 := Tryz.zeroValue5
  t9 := Tryz.underlying9
  a9 := Tryz.isAgg9
  z9 := Tryz.sizeOf9
  v9 := Tryz.zeroValue9
  t21 := Tryz.underlying21
  a21 := Tryz.isAgg21
  z21 := Tryz.sizeOf21
  v21 := Tryz.zeroValue21
  t46 := Tryz.underlying231
  a46 := Tryz.isAgg231
  z46 := Tryz.sizeOf231
  v46 := Tryz.zeroValue231
  t105 := Tryz.underlying334
  a105 := Tryz.isAgg334
  z105 := Tryz.sizeOf334
  v105 := Tryz.zeroValue334
  t116 := Tryz.underlying244
  a116 := Tryz.isAgg244
  z116 := Tryz.sizeOf244
  t117 := Tryz.underlying245
  a117 := Tryz.isAgg245
  z117 := Tryz.sizeOf245
  v117 := Tryz.zeroValue245
  t119 := Tryz.underlying426
  a119 := Tryz.isAgg426
  z119 := Tryz.sizeOf426
  t124 := Tryz.underlying248
  a124 := Tryz.isAgg248
  z124 := Tryz.sizeOf248
  v124 := Tryz.zeroValue248
  t138 := Tryz.underlying428
  a138 := Tryz.isAgg428
  z138 := Tryz.sizeOf428
  v138 := Tryz.zeroValue428
  t139 := Tryz.underlying429
  a139 := Tryz.isAgg429
  z139 := Tryz.sizeOf429
  v139 := Tryz.zeroValue429
  g3 := by kernel_rfl
  g4 := by kernel_rfl }
open Go.RowKit in
/-- strings.Trim: "Trim returns a slice of the string s with all leading and trailing Unicode code points contained in cutset removed.": AT A cutset OF ONE ASCII BYTE. THE WORLD BEHIND IT: as it was, or (where s is not empty) with ONE DRAW MORE off the tape: the statement 'return trimLeftByte(trimRightByte(s, c), c)' draws its order of evaluation. (LAID: no walk: one application.) -/
theorem Tryz.strings_Trim_one (s : ByteArray) (c : UInt8) (hc : c.toNat < 128) (w : World) (hs : s.size ≤ 9223372036854775807) :
    Calls Tryz.prog 104 #[.string s, .string ⟨#[c]⟩] w fun e w' => e = .returned (.string ⟨(Lib.trimB s.data.toList c).toArray⟩) ∧ (w' = w ∨ w' = w.drew) := Any.strings_Trim_one Tryz.lays160 s c hc w hs
def Tryz.lays105_ren : Go.Shelf.Ren := ⟨fun | 105 => 114 | 212 => 159 | 99 => 168 | 165 => 169 | 166 => 93 | 170 => 170 | 169 => 94 | 263 => 241 | 264 => 242 | 206 => 247 | 240 => 153 | 241 => 248 | 276 => 237 | 277 => 313 | n => n, fun | 9 => 9 | 3 => 3 | 4 => 4 | 20 => 20 | 0 => 0 | 46 => 231 | 109 => 240 | 5 => 5 | 72 => 184 | 76 => 188 | 51 => 286 | 146 => 329 | 53 => 288 | 148 => 331 | 70 => 182 | 37 => 135 | 75 => 187 | 127 => 232 | 164 => 323 | 80 => 190 | n => n, fun | n => n⟩
theorem Tryz.lays105 : Go.Proofs.Lays.n105 Tryz.prog Tryz.lays105_ren := {
  mixed := by kernel_rfl
  f99 := Tryz.func168.trans (congrArg some (by kernel_rfl))
  f105 := Tryz.func114.trans (congrArg some (by kernel_rfl))
  f165 := Tryz.func169.trans (congrArg some (by kernel_rfl))
  f166 := Tryz.func93.trans (congrArg some (by kernel_rfl))
  f169 := Tryz.func94.trans (congrArg some (by kernel_rfl))
  f170 := Tryz.func170.trans (congrArg some (by kernel_rfl))
  f206 := Tryz.func247.trans (congrArg some (by kernel_rfl))
  f212 := Tryz.func159.trans (congrArg some (by kernel_rfl))
  f240 := Tryz.func153.trans (congrArg some (by kernel_rfl))
  f241 := Tryz.func248.trans (congrArg some (by kernel_rfl))
  f263 := Tryz.func241.trans (congrArg some (by kernel_rfl))
  f264 := Tryz.func242.trans (congrArg some (by kernel_rfl))
  f276 := Tryz.func237.trans (congrArg some (by kernel_rfl))
  f277 := Tryz.func313.trans (congrArg some (by kernel_rfl))
  t0 := Tryz.underlying0
  a0 := Tryz.isAgg0
  z0 := Tryz.sizeOf0
  v0 := Tryz.zeroValue0
  t3 := Tryz.underlying3
  a3 := Tryz.isAgg3
  z3 := Tryz.sizeOf3
  v3 := Tryz.zeroValue3
  t4 := Tryz.underlying4
  a4 := Tryz.isAgg4
  z4 := Tryz.sizeOf4
  v4 := Tryz.zeroValue4
  t5 := Tryz.underlying5
  a5 := Tryz.isAgg5
  z5 := Tryz.sizeOf5
  v5 := Tryz.zeroValue5
  t9 := Tryz.underlying9
  a9 := Tryz.isAgg9
  z9 := Tryz.sizeOf9
  v9 := Tryz.zeroValue9
  t20 := Tryz.underlying20
  a20 := Tryz.isAgg20
  z20 := Tryz.sizeOf20
  v20 := Tryz.zeroValue20
  t37 := Tryz.underlying135
  a37 := Tryz.isAgg135
  z37 := Tryz.sizeOf135
  v37 := Tryz.zeroValue135
  t46 := Tryz.underlying231
  a46 := Tryz.isAgg231
  z46 := Tryz.sizeOf231
  v46 := Tryz.zeroValue231
  t51 := Tryz.underlying286
  a51 := Tryz.isAgg286
  z51 := Tryz.sizeOf286
  v51 := Tryz.zeroValue286
  t53 := Tryz.underlying288
  a53 := Tryz.isAgg288
  z53 := Tryz.sizeOf288
  v53 := Tryz.zeroValue288
  t70 := Tryz.underlying182
  a70 := Tryz.isAgg182
  z70 := Tryz.sizeOf182
  v70 := Tryz.zeroValue182
  t72 := Tryz.underlying184
  a72 := Tryz.isAgg184
  z72 := Tryz.sizeOf184
  v72 := Tryz.zeroValue184
  t75 := Tryz.underlying187
  a75 := Tryz.isAgg187
  z75 := Tryz.sizeOf187
  v75 := Tryz.zeroValue187
  t76 := Tryz.underlying188
  a76 := Tryz.isAgg188
  z76 := Tryz.sizeOf188
  v76 := Tryz.zeroValue188
  t109 := Tryz.underlying240
  a109 := Tryz.isAgg240
  z109 := Tryz.sizeOf240
  v109 := Tryz.zeroValue240
  t127 := Tryz.underlying232
  a127 := Tryz.isAgg232
  z127 := Tryz.sizeOf232
  v127 := Tryz.zeroValue232
  t146 := Tryz.underlying329
  a146 := Tryz.isAgg329
  z146 := Tryz.sizeOf329
  v146 := Tryz.zeroValue329
  t148 := Tryz.underlying331
  a148 := Tryz.isAgg331
  z148 := Tryz.sizeOf331
  v148 := Tryz.zeroValue331
  t164 := Tryz.underlying323
  a164 := Tryz.isAgg323
  z164 := Tryz.sizeOf323
  v164 := Tryz.zeroValue323 }
theorem Tryz.Builder_Extra_105 : Builder.Extra Tryz.prog Tryz.lays105_ren := {
  sizeBuilder := by kernel_rfl
  liesBuilder := by kernel_rfl
  t5 := Tryz.underlying5
  a5 := Tryz.isAgg5
  z5 := Tryz.sizeOf5
  v5 := Tryz.zeroValue5
  infoByte := by kernel_rfl
  cellsByte := by kernel_rfl
  sizeByte := by kernel_rfl
  neB5 := by decide }
open Go.RowKit Go.Lib in
/-- **strings.Repeat: count ≥ 0, the result within one allocation: count copies of s.** (LAID: no walk: one application.) -/
theorem Tryz.strings_Repeat (s : ByteArray) (c : Nat) (w : World) (hc : c ≤ 9223372036854775807) (hlen : s.size * c ≤ 140737488355328) :
    Calls Tryz.prog 114 #[.string s, .int .i64 c] w fun e w' => e = .returned (.string ⟨(Lib.repeatL s.data.toList c).toArray⟩) ∧ Below w.heap.size w w' := Any.strings_Repeat Tryz.lays105 Tryz.Builder_Extra_105 s c w hc hlen
end Go.Proofs
