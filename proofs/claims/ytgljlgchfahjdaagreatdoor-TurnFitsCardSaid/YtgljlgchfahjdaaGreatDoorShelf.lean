/- The library's contracts at this seat's translation, in plain words: what the kit's shelf has proved of Go's library, applied to this program's numbers. -/
import Derived.Shelf.Strings.Builder1
import Derived.Shelf.Strings.Builder2
import Derived.Shelf.Strings.Trim
import Derived.Shelf.Small.Utf8
import Derived.Shelf.Small.Bits
import Derived.Shelf.Small.Strs
import Derived.Shelf.Strings.BuilderF
import Derived.Shelf.Utf8.RuneCount
import Derived.Shelf.Strconv.Itoa0
import Derived.Shelf.Strings.Search1
import Derived.Shelf.Strings.Search2
import Derived.Shelf.Strings.Search3
import Derived.Shelf.Strings.Cut
import Derived.Shelf.Strings.Count
import Derived.Shelf.LaysM
import Derived.Shelf.Strings.Shaped
import Derived.Shelf.Strings.Prefix
import Derived.Shelf.Strings.Split
import Derived.Shelf.Strings.SplitShaped
import Derived.Shelf.Unicode.Decode
import Derived.Shelf.Strings.Runes
import Derived.Shelf.Strings.RuneCount
import Derived.Shelf.Strings.AsciiSet
import Derived.Shelf.Strings.Explode
import Derived.Shelf.Bits.Mul64
import Derived.Shelf.Strings.Repeat
import Derived.Shelf.Unicode.DecodeSlow
import Derived.Shelf.Unicode.DecodeAny
import Derived.Shelf.Unicode.DecodeLast
import Derived.Ground.Names2Prog
import Derived.Shelf.Slices.Clone
import Derived.Shelf.Slices.SearchI
import Derived.Ground.SlgnProg
import Derived.Shelf.SlicesE.Clone
import Derived.Test.YtgljlgchfahjdaaGreatDoorProg
namespace Go.Proofs
open Go.Shelf
def Tryz.lays160_ren : Go.Shelf.Ren := ⟨fun | 160 => 108 | 232 => 196 | 231 => 195 | 227 => 197 | 234 => 199 | 233 => 198 | 236 => 201 | 235 => 200 | 228 => 264 | 271 => 267 | 151 => 266 | 197 => 265 | 120 => 333 | 152 => 332 | 260 => 331 | 137 => 337 | 119 => 377 | 224 => 378 | 225 => 379 | 217 => 380 | 266 => 400 | n => n, fun | 9 => 9 | 4 => 4 | 3 => 3 | 5 => 5 | 117 => 256 | 116 => 255 | 0 => 0 | 124 => 259 | 21 => 21 | 105 => 323 | 46 => 48 | 119 => 414 | 139 => 417 | 138 => 416 | n => n, fun | 3 => 1 | 4 => 2 | n => n⟩
theorem Tryz.lays160 : Go.Proofs.Lays.n160 Tryz.prog Tryz.lays160_ren := {
  mixed := by kernel_rfl
  f119 := Tryz.func377.trans (congrArg some (by kernel_rfl))
  f120 := Tryz.func333.trans (congrArg some (by kernel_rfl))
  f137 := Tryz.func337.trans (congrArg some (by kernel_rfl))
  f151 := Tryz.func266.trans (congrArg some (by kernel_rfl))
  f152 := Tryz.func332.trans (congrArg some (by kernel_rfl))
  f160 := Tryz.func108.trans (congrArg some (by kernel_rfl))
  f197 := Tryz.func265.trans (congrArg some (by kernel_rfl))
  f217 := Tryz.func380.trans (congrArg some (by kernel_rfl))
  f224 := Tryz.func378.trans (congrArg some (by kernel_rfl))
  f225 := Tryz.func379.trans (congrArg some (by kernel_rfl))
  f227 := Tryz.func197.trans (congrArg some (by kernel_rfl))
  f228 := Tryz.func264.trans (congrArg some (by kernel_rfl))
  f231 := Tryz.func195.trans (congrArg some (by kernel_rfl))
  f232 := Tryz.func196.trans (congrArg some (by kernel_rfl))
  f233 := Tryz.func198.trans (congrArg some (by kernel_rfl))
  f234 := Tryz.func199.trans (congrArg some (by kernel_rfl))
  f235 := Tryz.func200.trans (congrArg some (by kernel_rfl))
  f236 := Tryz.func201.trans (congrArg some (by kernel_rfl))
  f260 := Tryz.func331.trans (congrArg some (by kernel_rfl))
  f266 := Tryz.func400.trans (congrArg some (by kernel_rfl))
  f271 := Tryz.func267.trans (congrArg some (by kernel_rfl))
  t0 := Tryz.underlying0
  a0 := Tryz.isAgg0
  z0 := Tryz.sizeOf0
  v0 := Tryz.zeroValue0
  t3 := Tryz.underlying3
  a3 := Tryz.isAgg3
  z3 := Tryz.sizeOf3
  v3 := Tryz.zeroValue3
  t4 := Tryz.underlying4
  a4 := Tryz.isAgg4
  z4 := Tryz.sizeOf4
  v4 := Tryz.zeroValue4
  t5 := Tryz.underlying5
  a5 := Tryz.isAgg5
  z5 := Tryz.sizeOf5
  v5 := Tryz.zeroValue5
  t9 := Tryz.underlying9
  a9 := Tryz.isAgg9
  z9 := Tryz.sizeOf9
  v9 := Tryz.zeroValue9
  t21 := Tryz.underlying21
  a21 := Tryz.isAgg21
  z21 := Tryz.sizeOf21
  v21 := Tryz.zeroValue21
  t46 := Tryz.underlying48
  a46 := Tryz.isAgg48
  z46 := Tryz.sizeOf48
  v46 := Tryz.zeroValue48
  t105 := Tryz.underlying323
  a105 := Tryz.isAgg323
  z105 := Tryz.sizeOf323
  v105 := Tryz.zeroValue323
  t116 := Tryz.underlying255
  a116 := Tryz.isAgg255
  z116 := Tryz.sizeOf255
  t117 := Tryz.underlying256
  a117 := Tryz.isAgg256
  z117 := Tryz.sizeOf256
  v117 := Tryz.zeroValue256
  t119 := Tryz.underlying414
  a119 := Tryz.isAgg414
  z119 := Tryz.sizeOf414
  t124 := Tryz.underlying259
  a124 := Tryz.isAgg259
  z124 := Tryz.sizeOf259
  v124 := Tryz.zeroValue259
  t138 := Tryz.underlying416
  a138 := Tryz.isAgg416
  z138 := Tryz.sizeOf416
  v138 := Tryz.zeroValue416
  t139 := Tryz.underlying417
  a139 := Tryz.isAgg417
  z139 := Tryz.sizeOf417
  v139 := Tryz.zeroValue417
  g3 := by kernel_rfl
  g4 := by kernel_rfl }
open Go.RowKit in
/-- strings.Trim: "Trim returns a slice of the string s with all leading and trailing Unicode code points contained in cutset removed.": AT A cutset OF ONE ASCII BYTE. THE WORLD BEHIND IT: as it was, or (where s is not empty) with ONE DRAW MORE off the tape: the statement 'return trimLeftByte(trimRightByte(s, c), c)' draws its order of evaluation. (LAID: no walk: one application.) -/
theorem Tryz.strings_Trim_one (s : ByteArray) (c : UInt8) (hc : c.toNat < 128) (w : World) (hs : s.size ≤ 9223372036854775807) :
    Calls Tryz.prog 108 #[.string s, .string ⟨#[c]⟩] w fun e w' => e = .returned (.string ⟨(Lib.trimB s.data.toList c).toArray⟩) ∧ (w' = w ∨ w' = w.drew) := Any.strings_Trim_one Tryz.lays160 s c hc w hs
def Tryz.lays105_ren : Go.Shelf.Ren := ⟨fun | 105 => 161 | 212 => 194 | 99 => 244 | 165 => 245 | 166 => 246 | 170 => 247 | 169 => 248 | 263 => 262 | 264 => 263 | 206 => 294 | 240 => 295 | 241 => 296 | 276 => 349 | 277 => 350 | n => n, fun | 9 => 9 | 3 => 3 | 4 => 4 | 20 => 20 | 0 => 0 | 46 => 48 | 109 => 251 | 5 => 5 | 72 => 300 | 76 => 304 | 51 => 316 | 146 => 317 | 53 => 319 | 148 => 320 | 70 => 298 | 37 => 125 | 75 => 303 | 127 => 349 | 164 => 387 | 80 => 306 | n => n, fun | n => n⟩
theorem Tryz.lays105 : Go.Proofs.Lays.n105 Tryz.prog Tryz.lays105_ren := {
  mixed := by kernel_rfl
  f99 := Tryz.func244.trans (congrArg some (by kernel_rfl))
  f105 := Tryz.func161.trans (congrArg some (by kernel_rfl))
  f165 := Tryz.func245.trans (congrArg some (by kernel_rfl))
  f166 := Tryz.func246.trans (congrArg some (by kernel_rfl))
  f169 := Tryz.func248.trans (congrArg some (by kernel_rfl))
  f170 := Tryz.func247.trans (congrArg some (by kernel_rfl))
  f206 := Tryz.func294.trans (congrArg some (by kernel_rfl))
  f212 := Tryz.func194.trans (congrArg some (by kernel_rfl))
  f240 := Tryz.func295.trans (congrArg some (by kernel_rfl))
  f241 := Tryz.func296.trans (congrArg some (by kernel_rfl))
  f263 := Tryz.func262.trans (congrArg some (by kernel_rfl))
  f264 := Tryz.func263.trans (congrArg some (by kernel_rfl))
  f276 := Tryz.func349.trans (congrArg some (by kernel_rfl))
  f277 := Tryz.func350.trans (congrArg some (by kernel_rfl))
  t0 := Tryz.underlying0
  a0 := Tryz.isAgg0
  z0 := Tryz.sizeOf0
  v0 := Tryz.zeroValue0
  t3 := Tryz.underlying3
  a3 := Tryz.isAgg3
  z3 := Tryz.sizeOf3
  v3 := Tryz.zeroValue3
  t4 := Tryz.underlying4
  a4 := Tryz.isAgg4
  z4 := Tryz.sizeOf4
  v4 := Tryz.zeroValue4
  t5 := Tryz.underlying5
  a5 := Tryz.isAgg5
  z5 := Tryz.sizeOf5
  v5 := Tryz.zeroValue5
  t9 := Tryz.underlying9
  a9 := Tryz.isAgg9
  z9 := Tryz.sizeOf9
  v9 := Tryz.zeroValue9
  t20 := Tryz.underlying20
  a20 := Tryz.isAgg20
  z20 := Tryz.sizeOf20
  v20 := Tryz.zeroValue20
  t37 := Tryz.underlying125
  a37 := Tryz.isAgg125
  z37 := Tryz.sizeOf125
  v37 := Tryz.zeroValue125
  t46 := Tryz.underlying48
  a46 := Tryz.isAgg48
  z46 := Tryz.sizeOf48
  v46 := Tryz.zeroValue48
  t51 := Tryz.underlying316
  a51 := Tryz.isAgg316
  z51 := Tryz.sizeOf316
  v51 := Tryz.zeroValue316
  t53 := Tryz.underlying319
  a53 := Tryz.isAgg319
  z53 := Tryz.sizeOf319
  v53 := Tryz.zeroValue319
  t70 := Tryz.underlying298
  a70 := Tryz.isAgg298
  z70 := Tryz.sizeOf298
  v70 := Tryz.zeroValue298
  t72 := Tryz.underlying300
  a72 := Tryz.isAgg300
  z72 := Tryz.sizeOf300
  v72 := Tryz.zeroValue300
  t75 := Tryz.underlying303
  a75 := Tryz.isAgg303
  z75 := Tryz.sizeOf303
  v75 := Tryz.zeroValue303
  t76 := Tryz.underlying304
  a76 := Tryz.isAgg304
  z76 := Tryz.sizeOf304
  v76 := Tryz.zeroValue304
  t109 := Tryz.underlying251
  a109 := Tryz.isAgg251
  z109 := Tryz.sizeOf251
  v109 := Tryz.zeroValue251
  t127 := Tryz.underlying349
  a127 := Tryz.isAgg349
  z127 := Tryz.sizeOf349
  v127 := Tryz.zeroValue349
  t146 := Tryz.underlying317
  a146 := Tryz.isAgg317
  z146 := Tryz.sizeOf317
  v146 := Tryz.zeroValue317
  t148 := Tryz.underlying320
  a148 := Tryz.isAgg320
  z148 := Tryz.sizeOf320
  v148 := Tryz.zeroValue320
  t164 := Tryz.underlying387
  a164 := Tryz.isAgg387
  z164 := Tryz.sizeOf387
  v164 := Tryz.zeroValue387 }
theorem Tryz.Builder_Extra_105 : Builder.Extra Tryz.prog Tryz.lays105_ren := {
  sizeBuilder := by kernel_rfl
  liesBuilder := by kernel_rfl
  t5 := Tryz.underlying5
  a5 := Tryz.isAgg5
  z5 := Tryz.sizeOf5
  v5 := Tryz.zeroValue5
  infoByte := by kernel_rfl
  cellsByte := by kernel_rfl
  sizeByte := by kernel_rfl
  neB5 := by decide }
open Go.RowKit Go.Lib in
/-- **strings.Repeat: count ≥ 0, the result within one allocation: count copies of s.** (LAID: no walk: one application.) -/
theorem Tryz.strings_Repeat (s : ByteArray) (c : Nat) (w : World) (hc : c ≤ 9223372036854775807) (hlen : s.size * c ≤ 140737488355328) :
    Calls Tryz.prog 161 #[.string s, .int .i64 c] w fun e w' => e = .returned (.string ⟨(Lib.repeatL s.data.toList c).toArray⟩) ∧ Below w.heap.size w w' := Any.strings_Repeat Tryz.lays105 Tryz.Builder_Extra_105 s c w hc hlen
end Go.Proofs
