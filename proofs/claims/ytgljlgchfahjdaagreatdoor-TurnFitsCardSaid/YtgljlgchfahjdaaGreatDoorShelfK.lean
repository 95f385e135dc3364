/-
  DERIVED: THE SHELF's CONTRACTS AT THIS DUMP, IN PLAIN WORDS (tools/lay-plain.mjs out of 'ShelfTmpK.lean', which tools/lay-shelf.mjs wrote): THE SAME DECLARATIONS UNDER THE SAME NAMES: 'import', 'namespace', 'open', 'def', 'theorem' AND NOTHING ELSE: no command of the shelf's: FOR A HAND-IN. Each laying: the table of numbers ('.._ren') and one theorem, a field a fact of the dump's own or the kernel's comparison; each contract: ONE APPLICATION.
-/
import Derived.Shelf.SlGeneric
import Derived.Shelf.SlIterI.Nil
import Derived.Shelf.SlIterI.Sorted
import Derived.Shelf.SortM.Plain
import Derived.Shelf.SortM.SortNone
import Derived.Ground.GgzProg
import Derived.Ground.SlgmProg
import Derived.Test.YtgljlgchfahjdaaGreatDoorProg
namespace Go.Proofs
open Go.Shelf
def Tryz.keysA_ren : Go.Shelf.Ren := ⟨fun | 7 => 56 | 10 => 133 | n => n, fun | 23 => 63 | 26 => 3 | 3 => 9 | 28 => 113 | 0 => 0 | 27 => 112 | 33 => 45 | 4 => 4 | n => n, fun | n => n⟩
theorem Tryz.keysA : Go.Proofs.SlLaysZI.n7 Tryz.prog Tryz.keysA_ren := {
  mixed := by kernel_rfl
  f7 := ⟨Tryz.f56.name, by decide, Tryz.func56.trans (congrArg some (by kernel_rfl))⟩
  f10 := ⟨Tryz.f133.name, by decide, Tryz.func133.trans (congrArg some (by kernel_rfl))⟩
  t0 := Tryz.underlying0
  a0 := Tryz.isAgg0
  z0 := Tryz.sizeOf0
  v0 := Tryz.zeroValue0
  t4 := Tryz.underlying4
  a4 := Tryz.isAgg4
  z4 := Tryz.sizeOf4
  v4 := Tryz.zeroValue4
  t23 := Tryz.underlying63
  a23 := Tryz.isAgg63
  z23 := Tryz.sizeOf63
  v23 := Tryz.zeroValue63
  t26 := Tryz.underlying3
  a26 := Tryz.isAgg3
  z26 := Tryz.sizeOf3
  v26 := Tryz.zeroValue3
  t27 := Tryz.underlying112
  a27 := Tryz.isAgg112
  z27 := Tryz.sizeOf112
  v27 := Tryz.zeroValue112
  t28 := Tryz.underlying113
  a28 := Tryz.isAgg113
  z28 := Tryz.sizeOf113
  v28 := Tryz.zeroValue113
  t33 := Tryz.underlying45
  a33 := Tryz.isAgg45
  z33 := Tryz.sizeOf45
  v33 := Tryz.zeroValue45 }
def Tryz.sortedA_ren : Go.Shelf.Ren := ⟨fun | 6 => 55 | 8 => 131 | 9 => 132 | 11 => 218 | 13 => 220 | 12 => 219 | 23 => 286 | 24 => 287 | 14 => 277 | 15 => 278 | 16 => 279 | 17 => 280 | 18 => 281 | 19 => 282 | 20 => 283 | 21 => 284 | 22 => 285 | 25 => 342 | 26 => 343 | 27 => 344 | 28 => 345 | 29 => 346 | 30 => 256 | 31 => 382 | n => n, fun | 26 => 3 | 28 => 113 | 24 => 22 | 0 => 0 | 3 => 3 | 37 => 48 | 48 => 316 | 50 => 319 | 4 => 4 | 40 => 339 | 39 => 338 | 45 => 295 | 5 => 5 | 9 => 9 | 51 => 380 | 55 => 384 | 57 => 419 | 58 => 212 | 33 => 45 | n => n, fun | n => n⟩
theorem Tryz.sortedA : Go.Proofs.SlLaysZI.n6 Tryz.prog Tryz.sortedA_ren := {
  mixed := by kernel_rfl
  f6 := ⟨Tryz.f55.name, by decide, Tryz.func55.trans (congrArg some (by kernel_rfl))⟩
  f8 := ⟨Tryz.f131.name, by decide, Tryz.func131.trans (congrArg some (by kernel_rfl))⟩
  f11 := ⟨Tryz.f218.name, by decide, Tryz.func218.trans (congrArg some (by kernel_rfl))⟩
  t0 := Tryz.underlying0
  a0 := Tryz.isAgg0
  z0 := Tryz.sizeOf0
  v0 := Tryz.zeroValue0
  t24 := Tryz.underlying22
  a24 := Tryz.isAgg22
  z24 := Tryz.sizeOf22
  v24 := Tryz.zeroValue22
  t26 := Tryz.underlying3
  a26 := Tryz.isAgg3
  z26 := Tryz.sizeOf3
  v26 := Tryz.zeroValue3
  t28 := Tryz.underlying113
  a28 := Tryz.isAgg113
  z28 := Tryz.sizeOf113
  v28 := Tryz.zeroValue113
  i26 := by kernel_rfl }
def Tryz.sortA_ren : Go.Shelf.Ren := ⟨fun | 5 => 132 | 8 => 220 | 7 => 219 | 19 => 286 | 20 => 287 | 10 => 277 | 11 => 278 | 12 => 279 | 13 => 280 | 14 => 281 | 15 => 282 | 16 => 283 | 17 => 284 | 18 => 285 | 30 => 342 | 31 => 343 | 32 => 344 | 33 => 345 | 34 => 346 | 35 => 256 | 40 => 382 | n => n, fun | 23 => 22 | 25 => 3 | 3 => 3 | 32 => 48 | 22 => 22 | 0 => 0 | 44 => 316 | 46 => 319 | 4 => 4 | 36 => 339 | 35 => 338 | 41 => 295 | 5 => 5 | 9 => 9 | 53 => 380 | 57 => 384 | 63 => 419 | 64 => 212 | n => n, fun | n => n⟩
theorem Tryz.sortA : Go.Proofs.SlLaysM.n5 Tryz.prog Tryz.sortA_ren := {
  mixed := by kernel_rfl
  f5 := ⟨Tryz.f132.name, by decide, Tryz.func132.trans (congrArg some (by kernel_rfl))⟩
  f7 := ⟨Tryz.f219.name, by decide, Tryz.func219.trans (congrArg some (by kernel_rfl))⟩
  f8 := Tryz.func220.trans (congrArg some (by kernel_rfl))
  f10 := ⟨Tryz.f277.name, by decide, Tryz.func277.trans (congrArg some (by kernel_rfl))⟩
  f11 := ⟨Tryz.f278.name, by decide, Tryz.func278.trans (congrArg some (by kernel_rfl))⟩
  f12 := ⟨Tryz.f279.name, by decide, Tryz.func279.trans (congrArg some (by kernel_rfl))⟩
  f13 := ⟨Tryz.f280.name, by decide, Tryz.func280.trans (congrArg some (by kernel_rfl))⟩
  f14 := ⟨Tryz.f281.name, by decide, Tryz.func281.trans (congrArg some (by kernel_rfl))⟩
  f15 := ⟨Tryz.f282.name, by decide, Tryz.func282.trans (congrArg some (by kernel_rfl))⟩
  f16 := ⟨Tryz.f283.name, by decide, Tryz.func283.trans (congrArg some (by kernel_rfl))⟩
  f17 := ⟨Tryz.f284.name, by decide, Tryz.func284.trans (congrArg some (by kernel_rfl))⟩
  f18 := ⟨Tryz.f285.name, by decide, Tryz.func285.trans (congrArg some (by kernel_rfl))⟩
  f19 := Tryz.func286.trans (congrArg some (by kernel_rfl))
  f20 := Tryz.func287.trans (congrArg some (by kernel_rfl))
  f30 := ⟨Tryz.f342.name, by decide, Tryz.func342.trans (congrArg some (by kernel_rfl))⟩
  f31 := Tryz.func343.trans (congrArg some (by kernel_rfl))
  f32 := Tryz.func344.trans (congrArg some (by kernel_rfl))
  f33 := ⟨Tryz.f345.name, by decide, Tryz.func345.trans (congrArg some (by kernel_rfl))⟩
  f34 := ⟨Tryz.f346.name, by decide, Tryz.func346.trans (congrArg some (by kernel_rfl))⟩
  f35 := ⟨Tryz.f256.name, by decide, Tryz.func256.trans (congrArg some (by kernel_rfl))⟩
  f40 := ⟨Tryz.f382.name, by decide, Tryz.func382.trans (congrArg some (by kernel_rfl))⟩
  t0 := Tryz.underlying0
  a0 := Tryz.isAgg0
  z0 := Tryz.sizeOf0
  v0 := Tryz.zeroValue0
  t3 := Tryz.underlying3
  a3 := Tryz.isAgg3
  z3 := Tryz.sizeOf3
  v3 := Tryz.zeroValue3
  t4 := Tryz.underlying4
  a4 := Tryz.isAgg4
  z4 := Tryz.sizeOf4
  v4 := Tryz.zeroValue4
  t5 := Tryz.underlying5
  a5 := Tryz.isAgg5
  z5 := Tryz.sizeOf5
  v5 := Tryz.zeroValue5
  t9 := Tryz.underlying9
  a9 := Tryz.isAgg9
  z9 := Tryz.sizeOf9
  v9 := Tryz.zeroValue9
  t22 := Tryz.underlying22
  a22 := Tryz.isAgg22
  z22 := Tryz.sizeOf22
  v22 := Tryz.zeroValue22
  t23 := Tryz.underlying22
  a23 := Tryz.isAgg22
  z23 := Tryz.sizeOf22
  v23 := Tryz.zeroValue22
  t25 := Tryz.underlying3
  a25 := Tryz.isAgg3
  z25 := Tryz.sizeOf3
  v25 := Tryz.zeroValue3
  t32 := Tryz.underlying48
  a32 := Tryz.isAgg48
  z32 := Tryz.sizeOf48
  v32 := Tryz.zeroValue48
  t35 := Tryz.underlying338
  a35 := Tryz.isAgg338
  z35 := Tryz.sizeOf338
  v35 := Tryz.zeroValue338
  t36 := Tryz.underlying339
  a36 := Tryz.isAgg339
  z36 := Tryz.sizeOf339
  v36 := Tryz.zeroValue339
  t41 := Tryz.underlying295
  a41 := Tryz.isAgg295
  z41 := Tryz.sizeOf295
  v41 := Tryz.zeroValue295
  t44 := Tryz.underlying316
  a44 := Tryz.isAgg316
  z44 := Tryz.sizeOf316
  v44 := Tryz.zeroValue316
  t46 := Tryz.underlying319
  a46 := Tryz.isAgg319
  z46 := Tryz.sizeOf319
  v46 := Tryz.zeroValue319
  t53 := Tryz.underlying380
  a53 := Tryz.isAgg380
  z53 := Tryz.sizeOf380
  v53 := Tryz.zeroValue380
  t57 := Tryz.underlying384
  a57 := Tryz.isAgg384
  z57 := Tryz.sizeOf384
  v57 := Tryz.zeroValue384
  t63 := Tryz.underlying419
  a63 := Tryz.isAgg419
  z63 := Tryz.sizeOf419
  v63 := Tryz.zeroValue419
  t64 := Tryz.underlying212
  a64 := Tryz.isAgg212
  z64 := Tryz.sizeOf212
  v64 := Tryz.zeroValue212 }
end Go.Proofs
