/- The library's contracts at this seat's translation, in plain words: what the kit's shelf has proved of Go's library, applied to this program's numbers. -/
import Derived.Shelf.Strings.Builder1
import Derived.Shelf.Strings.Builder2
import Derived.Shelf.Strings.Trim
import Derived.Shelf.Small.Utf8
import Derived.Shelf.Small.Strs
import Derived.Shelf.Strings.BuilderF
import Derived.Shelf.Strings.Search1
import Derived.Shelf.Strings.Search2
import Derived.Shelf.Strings.Search3
import Derived.Shelf.Strings.Cut
import Derived.Shelf.Strings.Count
import Derived.Shelf.LaysM
import Derived.Shelf.Strings.Shaped
import Derived.Shelf.Strings.Prefix
import Derived.Shelf.Strings.Split
import Derived.Shelf.Strings.SplitShaped
import Derived.Shelf.Unicode.Decode
import Derived.Shelf.Strings.Runes
import Derived.Shelf.Strings.RuneCount
import Derived.Shelf.Strings.AsciiSet
import Derived.Shelf.Bits.Mul64
import Derived.Shelf.Strings.Repeat
import Derived.Shelf.Unicode.DecodeSlow
import Derived.Ground.SlgmProg
import Derived.Shelf.SortM.Plain
import Derived.Shelf.SortM.SortNone
import Derived.Test.YtcbpgpfkpokgfaaGreatDoorProg
namespace Go.Proofs
open Go.Shelf
def Tryz.lays160_ren : Go.Shelf.Ren := ⟨fun | 160 => 149 | 232 => 242 | 231 => 241 | 227 => 243 | 234 => 245 | 233 => 244 | 236 => 247 | 235 => 246 | 228 => 317 | 271 => 319 | 151 => 261 | 197 => 318 | 120 => 354 | 152 => 327 | 260 => 353 | 137 => 332 | 119 => 370 | 224 => 367 | 225 => 366 | 217 => 365 | 266 => 380 | n => n, fun | 9 => 9 | 4 => 4 | 3 => 3 | 5 => 5 | 117 => 321 | 116 => 320 | 0 => 0 | 124 => 324 | 21 => 21 | 105 => 395 | 46 => 207 | 119 => 432 | 139 => 435 | 138 => 434 | n => n, fun | 3 => 1 | 4 => 2 | n => n⟩
theorem Tryz.lays160 : Go.Proofs.Lays.n160 Tryz.prog Tryz.lays160_ren := {
  mixed := by kernel_rfl
  f119 := Tryz.func370.trans (congrArg some (by kernel_rfl))
  f120 := Tryz.func354.trans (congrArg some (by kernel_rfl))
  f137 := Tryz.func332.trans (congrArg some (by kernel_rfl))
  f151 := Tryz.func261.trans (congrArg some (by kernel_rfl))
  f152 := Tryz.func327.trans (congrArg some (by kernel_rfl))
  f160 := Tryz.func149.trans (congrArg some (by kernel_rfl))
  f197 := Tryz.func318.trans (congrArg some (by kernel_rfl))
  f217 := Tryz.func365.trans (congrArg some (by kernel_rfl))
  f224 := Tryz.func367.trans (congrArg some (by kernel_rfl))
  f225 := Tryz.func366.trans (congrArg some (by kernel_rfl))
  f227 := Tryz.func243.trans (congrArg some (by kernel_rfl))
  f228 := Tryz.func317.trans (congrArg some (by kernel_rfl))
  f231 := Tryz.func241.trans (congrArg some (by kernel_rfl))
  f232 := Tryz.func242.trans (congrArg some (by kernel_rfl))
  f233 := Tryz.func244.trans (congrArg some (by kernel_rfl))
  f234 := Tryz.func245.trans (congrArg some (by kernel_rfl))
  f235 := Tryz.func246.trans (congrArg some (by kernel_rfl))
  f236 := Tryz.func247.trans (congrArg some (by kernel_rfl))
  f260 := Tryz.func353.trans (congrArg some (by kernel_rfl))
  f266 := Tryz.func380.trans (congrArg some (by kernel_rfl))
  f271 := Tryz.func319.trans (congrArg some (by kernel_rfl))
  t0 := Tryz.underlying0
  a0 := Tryz.isAgg0
  z0 := Tryz.sizeOf0
  v0 := Tryz.zeroValue0
  t3 := Tryz.underlying3
  a3 := Tryz.isAgg3
  z3 := Tryz.sizeOf3
  v3 := Tryz.zeroValue3
  t4 := Tryz.underlying4
  a4 := Tryz.isAgg4
  z4 := Tryz.sizeOf4
  v4 := Tryz.zeroValue4
  t5 := Tryz.underlying5
  a5 := Tryz.isAgg5
  z5 := Tryz.sizeOf5
  v5 := Tryz.zeroValue5
  t9 := Tryz.underlying9
  a9 := Tryz.isAgg9
  z9 := Tryz.sizeOf9
  v9 := Tryz.zeroValue9
  t21 := Tryz.underlying21
  a21 := Tryz.isAgg21
  z21 := Tryz.sizeOf21
  v21 := Tryz.zeroValue21
  t46 := Tryz.underlying207
  a46 := Tryz.isAgg207
  z46 := Tryz.sizeOf207
  v46 := Tryz.zeroValue207
  t105 := Tryz.underlying395
  a105 := Tryz.isAgg395
  z105 := Tryz.sizeOf395
  v105 := Tryz.zeroValue395
  t116 := Tryz.underlying320
  a116 := Tryz.isAgg320
  z116 := Tryz.sizeOf320
  t117 := Tryz.underlying321
  a117 := Tryz.isAgg321
  z117 := Tryz.sizeOf321
  v117 := Tryz.zeroValue321
  t119 := Tryz.underlying432
  a119 := Tryz.isAgg432
  z119 := Tryz.sizeOf432
  t124 := Tryz.underlying324
  a124 := Tryz.isAgg324
  z124 := Tryz.sizeOf324
  v124 := Tryz.zeroValue324
  t138 := Tryz.underlying434
  a138 := Tryz.isAgg434
  z138 := Tryz.sizeOf434
  v138 := Tryz.zeroValue434
  t139 := Tryz.underlying435
  a139 := Tryz.isAgg435
  z139 := Tryz.sizeOf435
  v139 := Tryz.zeroValue435
  g3 := by kernel_rfl
  g4 := by kernel_rfl }
open Go.RowKit in
/-- strings.Trim: "Trim returns a slice of the string s with all leading and trailing Unicode code points contained in cutset removed.": AT A cutset OF ONE ASCII BYTE. THE WORLD BEHIND IT: as it was, or (where s is not empty) with ONE DRAW MORE off the tape: the statement 'return trimLeftByte(trimRightByte(s, c), c)' draws its order of evaluation. (LAID: no walk: one application.) -/
theorem Tryz.strings_Trim_one (s : ByteArray) (c : UInt8) (hc : c.toNat < 128) (w : World) (hs : s.size ≤ 9223372036854775807) :
    Calls Tryz.prog 149 #[.string s, .string ⟨#[c]⟩] w fun e w' => e = .returned (.string ⟨(Lib.trimB s.data.toList c).toArray⟩) ∧ (w' = w ∨ w' = w.drew) := Any.strings_Trim_one Tryz.lays160 s c hc w hs
def Tryz.lays143_ren : Go.Shelf.Ren := ⟨fun | 143 => 258 | 219 => 325 | 217 => 365 | 225 => 366 | 224 => 367 | 267 => 368 | 266 => 380 | 314 => 381 | n => n, fun | 9 => 9 | 3 => 3 | 4 => 4 | 5 => 5 | 46 => 207 | 146 => 390 | 51 => 270 | n => n, fun | 1 => 0 | n => n⟩
theorem Tryz.lays143 : Go.Proofs.Lays.n143 Tryz.prog Tryz.lays143_ren := {
  mixed := by kernel_rfl
  f143 := Tryz.func258.trans (congrArg some (by kernel_rfl))
  f217 := Tryz.func365.trans (congrArg some (by kernel_rfl))
  f219 := Tryz.func325.trans (congrArg some (by kernel_rfl))
  f224 := Tryz.func367.trans (congrArg some (by kernel_rfl))
  f225 := Tryz.func366.trans (congrArg some (by kernel_rfl))
  f266 := Tryz.func380.trans (congrArg some (by kernel_rfl))
  f267 := Tryz.func368.trans (congrArg some (by kernel_rfl))
  f314 := Tryz.func381.trans (congrArg some (by kernel_rfl))
  t3 := Tryz.underlying3
  a3 := Tryz.isAgg3
  z3 := Tryz.sizeOf3
  v3 := Tryz.zeroValue3
  t4 := Tryz.underlying4
  a4 := Tryz.isAgg4
  z4 := Tryz.sizeOf4
  v4 := Tryz.zeroValue4
  t5 := Tryz.underlying5
  a5 := Tryz.isAgg5
  z5 := Tryz.sizeOf5
  v5 := Tryz.zeroValue5
  t9 := Tryz.underlying9
  a9 := Tryz.isAgg9
  z9 := Tryz.sizeOf9
  v9 := Tryz.zeroValue9
  t46 := Tryz.underlying207
  a46 := Tryz.isAgg207
  z46 := Tryz.sizeOf207
  v46 := Tryz.zeroValue207
  t51 := Tryz.underlying270
  a51 := Tryz.isAgg270
  z51 := Tryz.sizeOf270
  v51 := Tryz.zeroValue270
  t146 := Tryz.underlying390
  a146 := Tryz.isAgg390
  z146 := Tryz.sizeOf390
  v146 := Tryz.zeroValue390
  g1 := by kernel_rfl }
open Go.RowKit Go.Lib in
/-- strings.Index: "Index returns the index of the first instance of substr in s, or -1 if substr is not present in s.": AT A substr OF ONE BYTE c: IT RETURNS 'Lib.indexByte s c'; the world is as it was. (LAID: no walk: one application.) -/
theorem Tryz.strings_Index_one (s : ByteArray) (c : UInt8) (w : World) :
    Calls Tryz.prog 258 #[.string s, .string ⟨#[c]⟩] w fun e w' => e = .returned (.int .i64 (Lib.indexByte s.data.toList c)) ∧ w' = w := Any.strings_Index_one Tryz.lays143 s c w
def Tryz.lays138_ren : Go.Shelf.Ren := ⟨fun | 138 => 257 | 195 => 323 | 218 => 324 | 143 => 258 | 219 => 325 | 217 => 365 | 225 => 366 | 224 => 367 | 267 => 368 | 266 => 380 | 314 => 381 | n => n, fun | 9 => 9 | 3 => 3 | 4 => 4 | 5 => 5 | 0 => 0 | 46 => 207 | 146 => 390 | 51 => 270 | n => n, fun | 1 => 0 | n => n⟩
theorem Tryz.lays138 : Go.Proofs.Lays.n138 Tryz.prog Tryz.lays138_ren := {
  mixed := by kernel_rfl
  f138 := Tryz.func257.trans (congrArg some (by kernel_rfl))
  f143 := Tryz.func258.trans (congrArg some (by kernel_rfl))
  f195 := Tryz.func323.trans (congrArg some (by kernel_rfl))
  f217 := Tryz.func365.trans (congrArg some (by kernel_rfl))
  f218 := Tryz.func324.trans (congrArg some (by kernel_rfl))
  f219 := Tryz.func325.trans (congrArg some (by kernel_rfl))
  f224 := Tryz.func367.trans (congrArg some (by kernel_rfl))
  f225 := Tryz.func366.trans (congrArg some (by kernel_rfl))
  f266 := Tryz.func380.trans (congrArg some (by kernel_rfl))
  f267 := Tryz.func368.trans (congrArg some (by kernel_rfl))
  f314 := Tryz.func381.trans (congrArg some (by kernel_rfl))
  t0 := Tryz.underlying0
  a0 := Tryz.isAgg0
  z0 := Tryz.sizeOf0
  v0 := Tryz.zeroValue0
  t3 := Tryz.underlying3
  a3 := Tryz.isAgg3
  z3 := Tryz.sizeOf3
  v3 := Tryz.zeroValue3
  t4 := Tryz.underlying4
  a4 := Tryz.isAgg4
  z4 := Tryz.sizeOf4
  v4 := Tryz.zeroValue4
  t5 := Tryz.underlying5
  a5 := Tryz.isAgg5
  z5 := Tryz.sizeOf5
  v5 := Tryz.zeroValue5
  t9 := Tryz.underlying9
  a9 := Tryz.isAgg9
  z9 := Tryz.sizeOf9
  v9 := Tryz.zeroValue9
  t46 := Tryz.underlying207
  a46 := Tryz.isAgg207
  z46 := Tryz.sizeOf207
  v46 := Tryz.zeroValue207
  t51 := Tryz.underlying270
  a51 := Tryz.isAgg270
  z51 := Tryz.sizeOf270
  v51 := Tryz.zeroValue270
  t146 := Tryz.underlying390
  a146 := Tryz.isAgg390
  z146 := Tryz.sizeOf390
  v146 := Tryz.zeroValue390
  g1 := by kernel_rfl }
open Go.RowKit Go.Lib in
/-- strings.Count AT A substr OF ONE BYTE ('hp'): "Count counts the number of non-overlapping instances of substr in s.": IT RETURNS 'Lib.countByte s (that byte)'; the world is as it was. ✋ NO CONTRACT HERE YET at an empty substr (utf8.RuneCountInString) or at a longer one (a loop over strings.Index). (LAID: no walk: one application.) -/
theorem Tryz.strings_Count_one (s : ByteArray) (c : UInt8) (w : World) :
    Calls Tryz.prog 257 #[.string s, .string ⟨#[c]⟩] w fun e w' => e = .returned (.int .i64 (Lib.countByte s.data.toList c)) ∧ w' = w := Any.strings_Count_one Tryz.lays138 s c w
def Tryz.lays221_ren : Go.Shelf.Ren := ⟨fun | 221 => 172 | 268 => 256 | 138 => 257 | 143 => 258 | 195 => 323 | 197 => 318 | 218 => 324 | 219 => 325 | 260 => 353 | 217 => 365 | 225 => 366 | 224 => 367 | 267 => 368 | 266 => 380 | 314 => 381 | n => n, fun | 9 => 9 | 3 => 3 | 31 => 105 | 4 => 4 | 0 => 0 | 105 => 395 | 21 => 21 | 5 => 5 | 46 => 207 | 119 => 432 | 139 => 435 | 138 => 434 | 146 => 390 | 51 => 270 | n => n, fun | 1 => 0 | 3 => 1 | 4 => 2 | n => n⟩
theorem Tryz.lays221 : Go.Proofs.Lays.n221 Tryz.prog Tryz.lays221_ren := {
  mixed := by kernel_rfl
  f138 := Tryz.func257.trans (congrArg some (by kernel_rfl))
  f143 := Tryz.func258.trans (congrArg some (by kernel_rfl))
  f195 := Tryz.func323.trans (congrArg some (by kernel_rfl))
  f197 := Tryz.func318.trans (congrArg some (by kernel_rfl))
  f217 := Tryz.func365.trans (congrArg some (by kernel_rfl))
  f218 := Tryz.func324.trans (congrArg some (by kernel_rfl))
  f219 := Tryz.func325.trans (congrArg some (by kernel_rfl))
  f221 := Tryz.func172.trans (congrArg some (by kernel_rfl))
  f224 := Tryz.func367.trans (congrArg some (by kernel_rfl))
  f225 := Tryz.func366.trans (congrArg some (by kernel_rfl))
  f260 := Tryz.func353.trans (congrArg some (by kernel_rfl))
  f266 := Tryz.func380.trans (congrArg some (by kernel_rfl))
  f267 := Tryz.func368.trans (congrArg some (by kernel_rfl))
  f268 := Tryz.func256.trans (congrArg some (by kernel_rfl))
  f314 := Tryz.func381.trans (congrArg some (by kernel_rfl))
  t0 := Tryz.underlying0
  a0 := Tryz.isAgg0
  z0 := Tryz.sizeOf0
  v0 := Tryz.zeroValue0
  t3 := Tryz.underlying3
  a3 := Tryz.isAgg3
  z3 := Tryz.sizeOf3
  v3 := Tryz.zeroValue3
  t4 := Tryz.underlying4
  a4 := Tryz.isAgg4
  z4 := Tryz.sizeOf4
  v4 := Tryz.zeroValue4
  t5 := Tryz.underlying5
  a5 := Tryz.isAgg5
  z5 := Tryz.sizeOf5
  v5 := Tryz.zeroValue5
  t9 := Tryz.underlying9
  a9 := Tryz.isAgg9
  z9 := Tryz.sizeOf9
  v9 := Tryz.zeroValue9
  t21 := Tryz.underlying21
  a21 := Tryz.isAgg21
  z21 := Tryz.sizeOf21
  v21 := Tryz.zeroValue21
  t31 := Tryz.underlying105
  a31 := Tryz.isAgg105
  z31 := Tryz.sizeOf105
  v31 := Tryz.zeroValue105
  t46 := Tryz.underlying207
  a46 := Tryz.isAgg207
  z46 := Tryz.sizeOf207
  v46 := Tryz.zeroValue207
  t51 := Tryz.underlying270
  a51 := Tryz.isAgg270
  z51 := Tryz.sizeOf270
  v51 := Tryz.zeroValue270
  t105 := Tryz.underlying395
  a105 := Tryz.isAgg395
  z105 := Tryz.sizeOf395
  v105 := Tryz.zeroValue395
  t119 := Tryz.underlying432
  a119 := Tryz.isAgg432
  z119 := Tryz.sizeOf432
  t138 := Tryz.underlying434
  a138 := Tryz.isAgg434
  z138 := Tryz.sizeOf434
  v138 := Tryz.zeroValue434
  t139 := Tryz.underlying435
  a139 := Tryz.isAgg435
  z139 := Tryz.sizeOf435
  v139 := Tryz.zeroValue435
  t146 := Tryz.underlying390
  a146 := Tryz.isAgg390
  z146 := Tryz.sizeOf390
  v146 := Tryz.zeroValue390
  g1 := by kernel_rfl
  g3 := by kernel_rfl
  g4 := by kernel_rfl }
open Go.RowKit Go.Lib in
theorem Tryz.strings_genSplit (s sep : ByteArray) (sv : Nat) (n : Int) (N : Nat) (m : Int) (w : World) (hs : s.size < 4294967281) (hm : w.cell? ⟨0, 0, none⟩ = some (.int .i64 m)) (h1 : 1 ≤ sep.size) (hsv : sv ≤ sep.size) (hn0 : n ≠ 0) (hn63 : n ≤ 9223372036854775807) (hN : (N : Int) = min (if n < 0 then (Lib.countB s sep : Int) + 1 else n) ((s.size : Int) + 1)) :
    Calls Tryz.prog 172 #[.string s, .string sep, .int .i64 sv, .int .i64 n] w fun e w' =>
      e = .returned (.slice (some ⟨w.heap.size, 0, none⟩) (Lib.splitB sep sv (N - 1) s).length N) ∧ w' = w.alloc (.cells (Lib.cellsOf (Lib.splitB sep sv (N - 1) s) N) 9) := Any.strings_genSplit Tryz.lays221 (by kernel_rfl) s sep sv n N m w hs hm h1 hsv hn0 hn63 hN
def Tryz.lays151_ren : Go.Shelf.Ren := ⟨fun | 151 => 261 | 152 => 327 | 137 => 332 | 119 => 370 | 224 => 367 | 225 => 366 | 217 => 365 | 266 => 380 | n => n, fun | 9 => 9 | 21 => 21 | 4 => 4 | 3 => 3 | 5 => 5 | 0 => 0 | 46 => 207 | n => n, fun | n => n⟩
theorem Tryz.lays151 : Go.Proofs.Lays.n151 Tryz.prog Tryz.lays151_ren := {
  mixed := by kernel_rfl
  f119 := Tryz.func370.trans (congrArg some (by kernel_rfl))
  f137 := Tryz.func332.trans (congrArg some (by kernel_rfl))
  f151 := Tryz.func261.trans (congrArg some (by kernel_rfl))
  f152 := Tryz.func327.trans (congrArg some (by kernel_rfl))
  f217 := Tryz.func365.trans (congrArg some (by kernel_rfl))
  f224 := Tryz.func367.trans (congrArg some (by kernel_rfl))
  f225 := Tryz.func366.trans (congrArg some (by kernel_rfl))
  f266 := Tryz.func380.trans (congrArg some (by kernel_rfl))
  t0 := Tryz.underlying0
  a0 := Tryz.isAgg0
  z0 := Tryz.sizeOf0
  v0 := Tryz.zeroValue0
  t3 := Tryz.underlying3
  a3 := Tryz.isAgg3
  z3 := Tryz.sizeOf3
  v3 := Tryz.zeroValue3
  t4 := Tryz.underlying4
  a4 := Tryz.isAgg4
  z4 := Tryz.sizeOf4
  v4 := Tryz.zeroValue4
  t5 := Tryz.underlying5
  a5 := Tryz.isAgg5
  z5 := Tryz.sizeOf5
  v5 := Tryz.zeroValue5
  t9 := Tryz.underlying9
  a9 := Tryz.isAgg9
  z9 := Tryz.sizeOf9
  v9 := Tryz.zeroValue9
  t21 := Tryz.underlying21
  a21 := Tryz.isAgg21
  z21 := Tryz.sizeOf21
  v21 := Tryz.zeroValue21
  t46 := Tryz.underlying207
  a46 := Tryz.isAgg207
  z46 := Tryz.sizeOf207
  v46 := Tryz.zeroValue207 }
open Go.RowKit Go.Lib in
theorem Tryz.strings_ContainsRune_ascii (s : ByteArray) (r : Int) (w : World) (h0 : 0 ≤ r) (h1 : r < 128) :
    Calls Tryz.prog 261 #[.string s, .int .i32 r] w fun e w' => e = .returned (.bool (decide (0 ≤ Lib.indexByte s.data.toList r.toNat.toUInt8))) ∧ w' = w := Any.strings_ContainsRune_ascii Tryz.lays151 s r w h0 h1
def Tryz.lays105_ren : Go.Shelf.Ren := ⟨fun | 105 => 159 | 212 => 240 | 99 => 249 | 165 => 250 | 166 => 65 | 170 => 251 | 169 => 66 | 263 => 315 | 264 => 316 | 206 => 255 | 240 => 119 | 241 => 320 | 276 => 208 | 277 => 355 | n => n, fun | 9 => 9 | 3 => 3 | 4 => 4 | 20 => 20 | 0 => 0 | 46 => 207 | 109 => 316 | 5 => 5 | 72 => 130 | 76 => 134 | 51 => 270 | 146 => 390 | 53 => 272 | 148 => 392 | 70 => 127 | 37 => 128 | 75 => 133 | 127 => 208 | 164 => 273 | 80 => 136 | n => n, fun | n => n⟩
theorem Tryz.lays105 : Go.Proofs.Lays.n105 Tryz.prog Tryz.lays105_ren := {
  mixed := by kernel_rfl
  f99 := Tryz.func249.trans (congrArg some (by kernel_rfl))
  f105 := Tryz.func159.trans (congrArg some (by kernel_rfl))
  f165 := Tryz.func250.trans (congrArg some (by kernel_rfl))
  f166 := Tryz.func65.trans (congrArg some (by kernel_rfl))
  f169 := Tryz.func66.trans (congrArg some (by kernel_rfl))
  f170 := Tryz.func251.trans (congrArg some (by kernel_rfl))
  f206 := Tryz.func255.trans (congrArg some (by kernel_rfl))
  f212 := Tryz.func240.trans (congrArg some (by kernel_rfl))
  f240 := Tryz.func119.trans (congrArg some (by kernel_rfl))
  f241 := Tryz.func320.trans (congrArg some (by kernel_rfl))
  f263 := Tryz.func315.trans (congrArg some (by kernel_rfl))
  f264 := Tryz.func316.trans (congrArg some (by kernel_rfl))
  f276 := Tryz.func208.trans (congrArg some (by kernel_rfl))
  f277 := Tryz.func355.trans (congrArg some (by kernel_rfl))
  t0 := Tryz.underlying0
  a0 := Tryz.isAgg0
  z0 := Tryz.sizeOf0
  v0 := Tryz.zeroValue0
  t3 := Tryz.underlying3
  a3 := Tryz.isAgg3
  z3 := Tryz.sizeOf3
  v3 := Tryz.zeroValue3
  t4 := Tryz.underlying4
  a4 := Tryz.isAgg4
  z4 := Tryz.sizeOf4
  v4 := Tryz.zeroValue4
  t5 := Tryz.underlying5
  a5 := Tryz.isAgg5
  z5 := Tryz.sizeOf5
  v5 := Tryz.zeroValue5
  t9 := Tryz.underlying9
  a9 := Tryz.isAgg9
  z9 := Tryz.sizeOf9
  v9 := Tryz.zeroValue9
  t20 := Tryz.underlying20
  a20 := Tryz.isAgg20
  z20 := Tryz.sizeOf20
  v20 := Tryz.zeroValue20
  t37 := Tryz.underlying128
  a37 := Tryz.isAgg128
  z37 := Tryz.sizeOf128
  v37 := Tryz.zeroValue128
  t46 := Tryz.underlying207
  a46 := Tryz.isAgg207
  z46 := Tryz.sizeOf207
  v46 := Tryz.zeroValue207
  t51 := Tryz.underlying270
  a51 := Tryz.isAgg270
  z51 := Tryz.sizeOf270
  v51 := Tryz.zeroValue270
  t53 := Tryz.underlying272
  a53 := Tryz.isAgg272
  z53 := Tryz.sizeOf272
  v53 := Tryz.zeroValue272
  t70 := Tryz.underlying127
  a70 := Tryz.isAgg127
  z70 := Tryz.sizeOf127
  v70 := Tryz.zeroValue127
  t72 := Tryz.underlying130
  a72 := Tryz.isAgg130
  z72 := Tryz.sizeOf130
  v72 := Tryz.zeroValue130
  t75 := Tryz.underlying133
  a75 := Tryz.isAgg133
  z75 := Tryz.sizeOf133
  v75 := Tryz.zeroValue133
  t76 := Tryz.underlying134
  a76 := Tryz.isAgg134
  z76 := Tryz.sizeOf134
  v76 := Tryz.zeroValue134
  t109 := Tryz.underlying316
  a109 := Tryz.isAgg316
  z109 := Tryz.sizeOf316
  v109 := Tryz.zeroValue316
  t127 := Tryz.underlying208
  a127 := Tryz.isAgg208
  z127 := Tryz.sizeOf208
  v127 := Tryz.zeroValue208
  t146 := Tryz.underlying390
  a146 := Tryz.isAgg390
  z146 := Tryz.sizeOf390
  v146 := Tryz.zeroValue390
  t148 := Tryz.underlying392
  a148 := Tryz.isAgg392
  z148 := Tryz.sizeOf392
  v148 := Tryz.zeroValue392
  t164 := Tryz.underlying273
  a164 := Tryz.isAgg273
  z164 := Tryz.sizeOf273
  v164 := Tryz.zeroValue273 }
theorem Tryz.Builder_Extra_105 : Builder.Extra Tryz.prog Tryz.lays105_ren := {
  sizeBuilder := by kernel_rfl
  liesBuilder := by kernel_rfl
  t5 := Tryz.underlying5
  a5 := Tryz.isAgg5
  z5 := Tryz.sizeOf5
  v5 := Tryz.zeroValue5
  infoByte := by kernel_rfl
  cellsByte := by kernel_rfl
  sizeByte := by kernel_rfl
  neB5 := by decide }
open Go.RowKit Go.Lib in
/-- **strings.Repeat: count ≥ 0, the result within one allocation: count copies of s.** (LAID: no walk: one application.) -/
theorem Tryz.strings_Repeat (s : ByteArray) (c : Nat) (w : World) (hc : c ≤ 9223372036854775807) (hlen : s.size * c ≤ 140737488355328) :
    Calls Tryz.prog 159 #[.string s, .int .i64 c] w fun e w' => e = .returned (.string ⟨(Lib.repeatL s.data.toList c).toArray⟩) ∧ Below w.heap.size w w' := Any.strings_Repeat Tryz.lays105 Tryz.Builder_Extra_105 s c w hc hlen
end Go.Proofs
