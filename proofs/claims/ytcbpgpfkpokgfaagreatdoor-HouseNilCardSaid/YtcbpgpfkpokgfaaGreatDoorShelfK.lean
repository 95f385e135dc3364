/-
  DERIVED: THE SHELF's CONTRACTS AT THIS DUMP, IN PLAIN WORDS (tools/lay-plain.mjs out of 'ShelfTmpK.lean', which tools/lay-shelf.mjs wrote): THE SAME DECLARATIONS UNDER THE SAME NAMES: 'import', 'namespace', 'open', 'def', 'theorem' AND NOTHING ELSE: no command of the shelf's: FOR A HAND-IN. Each laying: the table of numbers ('.._ren') and one theorem, a field a fact of the dump's own or the kernel's comparison; each contract: ONE APPLICATION.
-/
import Derived.Shelf.SlGeneric
import Derived.Shelf.SlIterI.Nil
import Derived.Shelf.SlIterI.Sorted
import Derived.Shelf.SortM.Plain
import Derived.Shelf.SortM.SortNone
import Derived.Ground.GgzProg
import Derived.Ground.SlgmProg
import Derived.Test.YtcbpgpfkpokgfaaGreatDoorProg
namespace Go.Proofs
open Go.Shelf
def Tryz.keysA_ren : Go.Shelf.Ren := ⟨fun | 7 => 168 | 10 => 254 | n => n, fun | 23 => 169 | 26 => 3 | 3 => 9 | 28 => 239 | 0 => 0 | 27 => 179 | 33 => 178 | 4 => 4 | n => n, fun | n => n⟩
theorem Tryz.keysA : Go.Proofs.SlLaysZI.n7 Tryz.prog Tryz.keysA_ren := {
  mixed := by kernel_rfl
  f7 := ⟨Tryz.f168.name, by decide, Tryz.func168.trans (congrArg some (by kernel_rfl))⟩
  f10 := ⟨Tryz.f254.name, by decide, Tryz.func254.trans (congrArg some (by kernel_rfl))⟩
  t0 := Tryz.underlying0
  a0 := Tryz.isAgg0
  z0 := Tryz.sizeOf0
  v0 := Tryz.zeroValue0
  t4 := Tryz.underlying4
  a4 := Tryz.isAgg4
  z4 := Tryz.sizeOf4
  v4 := Tryz.zeroValue4
  t23 := Tryz.underlying169
  a23 := Tryz.isAgg169
  z23 := Tryz.sizeOf169
  v23 := Tryz.zeroValue169
  t26 := Tryz.underlying3
  a26 := Tryz.isAgg3
  z26 := Tryz.sizeOf3
  v26 := Tryz.zeroValue3
  t27 := Tryz.underlying179
  a27 := Tryz.isAgg179
  z27 := Tryz.sizeOf179
  v27 := Tryz.zeroValue179
  t28 := Tryz.underlying239
  a28 := Tryz.isAgg239
  z28 := Tryz.sizeOf239
  v28 := Tryz.zeroValue239
  t33 := Tryz.underlying178
  a33 := Tryz.isAgg178
  z33 := Tryz.sizeOf178
  v33 := Tryz.zeroValue178 }
def Tryz.sortedA_ren : Go.Shelf.Ren := ⟨fun | 6 => 167 | 8 => 252 | 9 => 253 | 11 => 321 | 13 => 116 | 12 => 322 | 23 => 205 | 24 => 206 | 14 => 356 | 15 => 357 | 16 => 358 | 17 => 359 | 18 => 360 | 19 => 361 | 20 => 362 | 21 => 363 | 22 => 364 | 25 => 377 | 26 => 286 | 27 => 287 | 28 => 378 | 29 => 379 | 30 => 118 | 31 => 385 | n => n, fun | 26 => 3 | 28 => 239 | 24 => 52 | 0 => 0 | 3 => 3 | 37 => 207 | 48 => 270 | 50 => 272 | 4 => 4 | 40 => 264 | 39 => 263 | 45 => 212 | 5 => 5 | 9 => 9 | 51 => 359 | 55 => 363 | 57 => 415 | 58 => 310 | 33 => 178 | n => n, fun | n => n⟩
theorem Tryz.sortedA : Go.Proofs.SlLaysZI.n6 Tryz.prog Tryz.sortedA_ren := {
  mixed := by kernel_rfl
  f6 := ⟨Tryz.f167.name, by decide, Tryz.func167.trans (congrArg some (by kernel_rfl))⟩
  f8 := ⟨Tryz.f252.name, by decide, Tryz.func252.trans (congrArg some (by kernel_rfl))⟩
  f11 := ⟨Tryz.f321.name, by decide, Tryz.func321.trans (congrArg some (by kernel_rfl))⟩
  t0 := Tryz.underlying0
  a0 := Tryz.isAgg0
  z0 := Tryz.sizeOf0
  v0 := Tryz.zeroValue0
  t24 := Tryz.underlying52
  a24 := Tryz.isAgg52
  z24 := Tryz.sizeOf52
  v24 := Tryz.zeroValue52
  t26 := Tryz.underlying3
  a26 := Tryz.isAgg3
  z26 := Tryz.sizeOf3
  v26 := Tryz.zeroValue3
  t28 := Tryz.underlying239
  a28 := Tryz.isAgg239
  z28 := Tryz.sizeOf239
  v28 := Tryz.zeroValue239
  i26 := by kernel_rfl }
def Tryz.sortA_ren : Go.Shelf.Ren := ⟨fun | 5 => 253 | 8 => 116 | 7 => 322 | 19 => 205 | 20 => 206 | 10 => 356 | 11 => 357 | 12 => 358 | 13 => 359 | 14 => 360 | 15 => 361 | 16 => 362 | 17 => 363 | 18 => 364 | 30 => 377 | 31 => 286 | 32 => 287 | 33 => 378 | 34 => 379 | 35 => 118 | 40 => 385 | n => n, fun | 23 => 52 | 25 => 3 | 3 => 3 | 32 => 207 | 22 => 52 | 0 => 0 | 44 => 270 | 46 => 272 | 4 => 4 | 36 => 264 | 35 => 263 | 41 => 212 | 5 => 5 | 9 => 9 | 53 => 359 | 57 => 363 | 63 => 415 | 64 => 310 | n => n, fun | n => n⟩
theorem Tryz.sortA : Go.Proofs.SlLaysM.n5 Tryz.prog Tryz.sortA_ren := {
  mixed := by kernel_rfl
  f5 := ⟨Tryz.f253.name, by decide, Tryz.func253.trans (congrArg some (by kernel_rfl))⟩
  f7 := ⟨Tryz.f322.name, by decide, Tryz.func322.trans (congrArg some (by kernel_rfl))⟩
  f8 := Tryz.func116.trans (congrArg some (by kernel_rfl))
  f10 := ⟨Tryz.f356.name, by decide, Tryz.func356.trans (congrArg some (by kernel_rfl))⟩
  f11 := ⟨Tryz.f357.name, by decide, Tryz.func357.trans (congrArg some (by kernel_rfl))⟩
  f12 := ⟨Tryz.f358.name, by decide, Tryz.func358.trans (congrArg some (by kernel_rfl))⟩
  f13 := ⟨Tryz.f359.name, by decide, Tryz.func359.trans (congrArg some (by kernel_rfl))⟩
  f14 := ⟨Tryz.f360.name, by decide, Tryz.func360.trans (congrArg some (by kernel_rfl))⟩
  f15 := ⟨Tryz.f361.name, by decide, Tryz.func361.trans (congrArg some (by kernel_rfl))⟩
  f16 := ⟨Tryz.f362.name, by decide, Tryz.func362.trans (congrArg some (by kernel_rfl))⟩
  f17 := ⟨Tryz.f363.name, by decide, Tryz.func363.trans (congrArg some (by kernel_rfl))⟩
  f18 := ⟨Tryz.f364.name, by decide, Tryz.func364.trans (congrArg some (by kernel_rfl))⟩
  f19 := Tryz.func205.trans (congrArg some (by kernel_rfl))
  f20 := Tryz.func206.trans (congrArg some (by kernel_rfl))
  f30 := ⟨Tryz.f377.name, by decide, Tryz.func377.trans (congrArg some (by kernel_rfl))⟩
  f31 := Tryz.func286.trans (congrArg some (by kernel_rfl))
  f32 := Tryz.func287.trans (congrArg some (by kernel_rfl))
  f33 := ⟨Tryz.f378.name, by decide, Tryz.func378.trans (congrArg some (by kernel_rfl))⟩
  f34 := ⟨Tryz.f379.name, by decide, Tryz.func379.trans (congrArg some (by kernel_rfl))⟩
  f35 := ⟨Tryz.f118.name, by decide, Tryz.func118.trans (congrArg some (by kernel_rfl))⟩
  f40 := ⟨Tryz.f385.name, by decide, Tryz.func385.trans (congrArg some (by kernel_rfl))⟩
  t0 := Tryz.underlying0
  a0 := Tryz.isAgg0
  z0 := Tryz.sizeOf0
  v0 := Tryz.zeroValue0
  t3 := Tryz.underlying3
  a3 := Tryz.isAgg3
  z3 := Tryz.sizeOf3
  v3 := Tryz.zeroValue3
  t4 := Tryz.underlying4
  a4 := Tryz.isAgg4
  z4 := Tryz.sizeOf4
  v4 := Tryz.zeroValue4
  t5 := Tryz.underlying5
  a5 := Tryz.isAgg5
  z5 := Tryz.sizeOf5
  v5 := Tryz.zeroValue5
  t9 := Tryz.underlying9
  a9 := Tryz.isAgg9
  z9 := Tryz.sizeOf9
  v9 := Tryz.zeroValue9
  t22 := Tryz.underlying52
  a22 := Tryz.isAgg52
  z22 := Tryz.sizeOf52
  v22 := Tryz.zeroValue52
  t23 := Tryz.underlying52
  a23 := Tryz.isAgg52
  z23 := Tryz.sizeOf52
  v23 := Tryz.zeroValue52
  t25 := Tryz.underlying3
  a25 := Tryz.isAgg3
  z25 := Tryz.sizeOf3
  v25 := Tryz.zeroValue3
  t32 := Tryz.underlying207
  a32 := Tryz.isAgg207
  z32 := Tryz.sizeOf207
  v32 := Tryz.zeroValue207
  t35 := Tryz.underlying263
  a35 := Tryz.isAgg263
  z35 := Tryz.sizeOf263
  v35 := Tryz.zeroValue263
  t36 := Tryz.underlying264
  a36 := Tryz.isAgg264
  z36 := Tryz.sizeOf264
  v36 := Tryz.zeroValue264
  t41 := Tryz.underlying212
  a41 := Tryz.isAgg212
  z41 := Tryz.sizeOf212
  v41 := Tryz.zeroValue212
  t44 := Tryz.underlying270
  a44 := Tryz.isAgg270
  z44 := Tryz.sizeOf270
  v44 := Tryz.zeroValue270
  t46 := Tryz.underlying272
  a46 := Tryz.isAgg272
  z46 := Tryz.sizeOf272
  v46 := Tryz.zeroValue272
  t53 := Tryz.underlying359
  a53 := Tryz.isAgg359
  z53 := Tryz.sizeOf359
  v53 := Tryz.zeroValue359
  t57 := Tryz.underlying363
  a57 := Tryz.isAgg363
  z57 := Tryz.sizeOf363
  v57 := Tryz.zeroValue363
  t63 := Tryz.underlying415
  a63 := Tryz.isAgg415
  z63 := Tryz.sizeOf415
  v63 := Tryz.zeroValue415
  t64 := Tryz.underlying310
  a64 := Tryz.isAgg310
  z64 := Tryz.sizeOf310
  v64 := Tryz.zeroValue310 }
end Go.Proofs
