/- The library's contracts at this seat's translation, in plain words: what the kit's shelf has proved of Go's library, applied to this program's numbers. -/
import Derived.Shelf.Strings.Builder1
import Derived.Shelf.Strings.Builder2
import Derived.Shelf.Strings.OnBuilder
import Derived.Shelf.Strings.Trim
import Derived.Shelf.Small.Utf8
import Derived.Shelf.Small.Bits
import Derived.Shelf.Small.Strs
import Derived.Shelf.Small.Wraps
import Derived.Shelf.Strings.BuilderF
import Derived.Shelf.Strings.BuilderK
import Derived.Shelf.Utf8.RuneCount
import Derived.Shelf.Strings.Builder2Cap
import Derived.Shelf.Strconv.Itoa0
import Derived.Shelf.Strings.Search1
import Derived.Shelf.Strings.Search2
import Derived.Shelf.Strings.Search3
import Derived.Shelf.Strings.Cut
import Derived.Shelf.Strings.Count
import Derived.Shelf.LaysM
import Derived.Shelf.Strings.Shaped
import Derived.Shelf.Sort.Plain
import Derived.Shelf.Strings.Prefix
import Derived.Shelf.Strings.Split
import Derived.Shelf.Strings.SplitShaped
import Derived.Shelf.Unicode.Decode
import Derived.Shelf.Strings.Runes
import Derived.Shelf.Strings.RuneCount
import Derived.Shelf.Strings.AsciiSet
import Derived.Shelf.Strings.Explode
import Derived.Shelf.Bits.Mul64
import Derived.Shelf.Strings.Repeat
import Derived.Shelf.Unicode.DecodeSlow
import Derived.Shelf.Unicode.DecodeAny
import Derived.Shelf.Unicode.DecodeLast
import Derived.Shelf.Slices.Equal
import Derived.Ground.Names2Prog
import Derived.Shelf.Slices.Clone
import Derived.Shelf.Slices.SearchI
import Derived.Shelf.Slices.In.SortNone
import Derived.Shelf.Slices.Empties2
import Derived.Ground.SlgnProg
import Derived.Shelf.SlicesE.Clone
import Derived.Test.YtiimfeombijaeaaGreatDoorProg
namespace Go.Proofs
open Go.Shelf
def Tryz.lays160_ren : Go.Shelf.Ren := ⟨fun | 160 => 125 | 232 => 223 | 231 => 222 | 227 => 224 | 234 => 226 | 233 => 225 | 236 => 228 | 235 => 227 | 228 => 304 | 271 => 306 | 151 => 245 | 197 => 305 | 120 => 344 | 152 => 315 | 260 => 343 | 137 => 320 | 119 => 360 | 224 => 357 | 225 => 356 | 217 => 355 | 266 => 370 | n => n, fun | 9 => 9 | 4 => 4 | 3 => 3 | 5 => 5 | 117 => 312 | 116 => 311 | 0 => 0 | 124 => 315 | 21 => 21 | 105 => 393 | 46 => 200 | 119 => 432 | 139 => 435 | 138 => 434 | n => n, fun | 3 => 1 | 4 => 2 | n => n⟩
theorem Tryz.lays160 : Go.Proofs.Lays.n160 Tryz.prog Tryz.lays160_ren := {
  mixed := by kernel_rfl
  f119 := Tryz.func360.trans (congrArg some (by kernel_rfl))
  f120 := Tryz.func344.trans (congrArg some (by kernel_rfl))
  f137 := Tryz.func320.trans (congrArg some (by kernel_rfl))
  f151 := Tryz.func245.trans (congrArg some (by kernel_rfl))
  f152 := Tryz.func315.trans (congrArg some (by kernel_rfl))
  f160 := Tryz.func125.trans (congrArg some (by kernel_rfl))
  f197 := Tryz.func305.trans (congrArg some (by kernel_rfl))
  f217 := Tryz.func355.trans (congrArg some (by kernel_rfl))
  f224 := Tryz.func357.trans (congrArg some (by kernel_rfl))
  f225 := Tryz.func356.trans (congrArg some (by kernel_rfl))
  f227 := Tryz.func224.trans (congrArg some (by kernel_rfl))
  f228 := Tryz.func304.trans (congrArg some (by kernel_rfl))
  f231 := Tryz.func222.trans (congrArg some (by kernel_rfl))
  f232 := Tryz.func223.trans (congrArg some (by kernel_rfl))
  f233 := Tryz.func225.trans (congrArg some (by kernel_rfl))
  f234 := Tryz.func226.trans (congrArg some (by kernel_rfl))
  f235 := Tryz.func227.trans (congrArg some (by kernel_rfl))
  f236 := Tryz.func228.trans (congrArg some (by kernel_rfl))
  f260 := Tryz.func343.trans (congrArg some (by kernel_rfl))
  f266 := Tryz.func370.trans (congrArg some (by kernel_rfl))
  f271 := Tryz.func306.trans (congrArg some (by kernel_rfl))
  t0 := Tryz.underlying0
  a0 := Tryz.isAgg0
  z0 := Tryz.sizeOf0
  v0 := Tryz.zeroValue0
  t3 := Tryz.underlying3
  a3 := Tryz.isAgg3
  z3 := Tryz.sizeOf3
  v3 := Tryz.zeroValue3
  t4 := Tryz.underlying4
  a4 := Tryz.isAgg4
  z4 := Tryz.sizeOf4
  v4 := Tryz.zeroValue4
  t5 := Tryz.underlying5
  a5 := Tryz.isAgg5
  z5 := Tryz.sizeOf5
  v5 := Tryz.zeroValue5
  t9 := Tryz.underlying9
  a9 := Tryz.isAgg9
  z9 := Tryz.sizeOf9
  v9 := Tryz.zeroValue9
  t21 := Tryz.underlying21
  a21 := Tryz.isAgg21
  z21 := Tryz.sizeOf21
  v21 := Tryz.zeroValue21
  t46 := Tryz.underlying200
  a46 := Tryz.isAgg200
  z46 := Tryz.sizeOf200
  v46 := Tryz.zeroValue200
  t105 := Tryz.underlying393
  a105 := Tryz.isAgg393
  z105 := Tryz.sizeOf393
  v105 := Tryz.zeroValue393
  t116 := Tryz.underlying311
  a116 := Tryz.isAgg311
  z116 := Tryz.sizeOf311
  t117 := Tryz.underlying312
  a117 := Tryz.isAgg312
  z117 := Tryz.sizeOf312
  v117 := Tryz.zeroValue312
  t119 := Tryz.underlying432
  a119 := Tryz.isAgg432
  z119 := Tryz.sizeOf432
  t124 := Tryz.underlying315
  a124 := Tryz.isAgg315
  z124 := Tryz.sizeOf315
  v124 := Tryz.zeroValue315
  t138 := Tryz.underlying434
  a138 := Tryz.isAgg434
  z138 := Tryz.sizeOf434
  v138 := Tryz.zeroValue434
  t139 := Tryz.underlying435
  a139 := Tryz.isAgg435
  z139 := Tryz.sizeOf435
  v139 := Tryz.zeroValue435
  g3 := by kernel_rfl
  g4 := by kernel_rfl }
open Go.RowKit in
/-- strings.Trim: "Trim returns a slice of the string s with all leading and trailing Unicode code points contained in cutset removed.": AT A cutset OF ONE ASCII BYTE. THE WORLD BEHIND IT: as it was, or (where s is not empty) with ONE DRAW MORE off the tape: the statement 'return trimLeftByte(trimRightByte(s, c), c)' draws its order of evaluation. (LAID: no walk: one application.) -/
theorem Tryz.strings_Trim_one (s : ByteArray) (c : UInt8) (hc : c.toNat < 128) (w : World) (hs : s.size ≤ 9223372036854775807) :
    Calls Tryz.prog 125 #[.string s, .string ⟨#[c]⟩] w fun e w' => e = .returned (.string ⟨(Lib.trimB s.data.toList c).toArray⟩) ∧ (w' = w ∨ w' = w.drew) := Any.strings_Trim_one Tryz.lays160 s c hc w hs
def Tryz.lays105_ren : Go.Shelf.Ren := ⟨fun | 105 => 135 | 212 => 221 | 99 => 230 | 165 => 231 | 166 => 62 | 170 => 232 | 169 => 63 | 263 => 302 | 264 => 303 | 206 => 239 | 240 => 107 | 241 => 307 | 276 => 192 | 277 => 345 | n => n, fun | 9 => 9 | 3 => 3 | 4 => 4 | 20 => 20 | 0 => 0 | 46 => 200 | 109 => 307 | 5 => 5 | 72 => 141 | 76 => 145 | 51 => 261 | 146 => 388 | 53 => 263 | 148 => 390 | 70 => 138 | 37 => 139 | 75 => 144 | 127 => 201 | 164 => 264 | 80 => 147 | n => n, fun | n => n⟩
theorem Tryz.lays105 : Go.Proofs.Lays.n105 Tryz.prog Tryz.lays105_ren := {
  mixed := by kernel_rfl
  f99 := Tryz.func230.trans (congrArg some (by kernel_rfl))
  f105 := Tryz.func135.trans (congrArg some (by kernel_rfl))
  f165 := Tryz.func231.trans (congrArg some (by kernel_rfl))
  f166 := Tryz.func62.trans (congrArg some (by kernel_rfl))
  f169 := Tryz.func63.trans (congrArg some (by kernel_rfl))
  f170 := Tryz.func232.trans (congrArg some (by kernel_rfl))
  f206 := Tryz.func239.trans (congrArg some (by kernel_rfl))
  f212 := Tryz.func221.trans (congrArg some (by kernel_rfl))
  f240 := Tryz.func107.trans (congrArg some (by kernel_rfl))
  f241 := Tryz.func307.trans (congrArg some (by kernel_rfl))
  f263 := Tryz.func302.trans (congrArg some (by kernel_rfl))
  f264 := Tryz.func303.trans (congrArg some (by kernel_rfl))
  f276 := Tryz.func192.trans (congrArg some (by kernel_rfl))
  f277 := Tryz.func345.trans (congrArg some (by kernel_rfl))
  t0 := Tryz.underlying0
  a0 := Tryz.isAgg0
  z0 := Tryz.sizeOf0
  v0 := Tryz.zeroValue0
  t3 := Tryz.underlying3
  a3 := Tryz.isAgg3
  z3 := Tryz.sizeOf3
  v3 := Tryz.zeroValue3
  t4 := Tryz.underlying4
  a4 := Tryz.isAgg4
  z4 := Tryz.sizeOf4
  v4 := Tryz.zeroValue4
  t5 := Tryz.underlying5
  a5 := Tryz.isAgg5
  z5 := Tryz.sizeOf5
  v5 := Tryz.zeroValue5
  t9 := Tryz.underlying9
  a9 := Tryz.isAgg9
  z9 := Tryz.sizeOf9
  v9 := Tryz.zeroValue9
  t20 := Tryz.underlying20
  a20 := Tryz.isAgg20
  z20 := Tryz.sizeOf20
  v20 := Tryz.zeroValue20
  t37 := Tryz.underlying139
  a37 := Tryz.isAgg139
  z37 := Tryz.sizeOf139
  v37 := Tryz.zeroValue139
  t46 := Tryz.underlying200
  a46 := Tryz.isAgg200
  z46 := Tryz.sizeOf200
  v46 := Tryz.zeroValue200
  t51 := Tryz.underlying261
  a51 := Tryz.isAgg261
  z51 := Tryz.sizeOf261
  v51 := Tryz.zeroValue261
  t53 := Tryz.underlying263
  a53 := Tryz.isAgg263
  z53 := Tryz.sizeOf263
  v53 := Tryz.zeroValue263
  t70 := Tryz.underlying138
  a70 := Tryz.isAgg138
  z70 := Tryz.sizeOf138
  v70 := Tryz.zeroValue138
  t72 := Tryz.underlying141
  a72 := Tryz.isAgg141
  z72 := Tryz.sizeOf141
  v72 := Tryz.zeroValue141
  t75 := Tryz.underlying144
  a75 := Tryz.isAgg144
  z75 := Tryz.sizeOf144
  v75 := Tryz.zeroValue144
  t76 := Tryz.underlying145
  a76 := Tryz.isAgg145
  z76 := Tryz.sizeOf145
  v76 := Tryz.zeroValue145
  t109 := Tryz.underlying307
  a109 := Tryz.isAgg307
  z109 := Tryz.sizeOf307
  v109 := Tryz.zeroValue307
  t127 := Tryz.underlying201
  a127 := Tryz.isAgg201
  z127 := Tryz.sizeOf201
  v127 := Tryz.zeroValue201
  t146 := Tryz.underlying388
  a146 := Tryz.isAgg388
  z146 := Tryz.sizeOf388
  v146 := Tryz.zeroValue388
  t148 := Tryz.underlying390
  a148 := Tryz.isAgg390
  z148 := Tryz.sizeOf390
  v148 := Tryz.zeroValue390
  t164 := Tryz.underlying264
  a164 := Tryz.isAgg264
  z164 := Tryz.sizeOf264
  v164 := Tryz.zeroValue264 }
theorem Tryz.Builder_Extra_105 : Builder.Extra Tryz.prog Tryz.lays105_ren := {
  sizeBuilder := by kernel_rfl
  liesBuilder := by kernel_rfl
  t5 := Tryz.underlying5
  a5 := Tryz.isAgg5
  z5 := Tryz.sizeOf5
  v5 := Tryz.zeroValue5
  infoByte := by kernel_rfl
  cellsByte := by kernel_rfl
  sizeByte := by kernel_rfl
  neB5 := by decide }
open Go.RowKit Go.Lib in
/-- **strings.Repeat: count ≥ 0, the result within one allocation: count copies of s.** (LAID: no walk: one application.) -/
theorem Tryz.strings_Repeat (s : ByteArray) (c : Nat) (w : World) (hc : c ≤ 9223372036854775807) (hlen : s.size * c ≤ 140737488355328) :
    Calls Tryz.prog 135 #[.string s, .int .i64 c] w fun e w' => e = .returned (.string ⟨(Lib.repeatL s.data.toList c).toArray⟩) ∧ Below w.heap.size w w' := Any.strings_Repeat Tryz.lays105 Tryz.Builder_Extra_105 s c w hc hlen
end Go.Proofs
