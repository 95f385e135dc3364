/-
  DERIVED: THE SHELF's CONTRACTS AT THIS DUMP, IN PLAIN WORDS (tools/lay-plain.mjs out of 'ShelfTmpK.lean', which tools/lay-shelf.mjs wrote): THE SAME DECLARATIONS UNDER THE SAME NAMES: 'import', 'namespace', 'open', 'def', 'theorem' AND NOTHING ELSE: no command of the shelf's: FOR A HAND-IN. Each laying: the table of numbers ('.._ren') and one theorem, a field a fact of the dump's own or the kernel's comparison; each contract: ONE APPLICATION.
-/
import Derived.Shelf.SlGeneric
import Derived.Shelf.SlIterI.Nil
import Derived.Shelf.SlIterI.Sorted
import Derived.Shelf.SortM.Plain
import Derived.Shelf.SortM.SortNone
import Derived.Ground.GgzProg
import Derived.Ground.SlgmProg
import Derived.Test.YtdomphkodeamgaaGreatDoorProg
namespace Go.Proofs
open Go.Shelf
def Tryz.keysA_ren : Go.Shelf.Ren := ⟨fun | 7 => 127 | 10 => 173 | n => n, fun | 23 => 117 | 26 => 3 | 3 => 9 | 28 => 214 | 0 => 0 | 27 => 129 | 33 => 128 | 4 => 4 | n => n, fun | n => n⟩
theorem Tryz.keysA : Go.Proofs.SlLaysZI.n7 Tryz.prog Tryz.keysA_ren := {
  mixed := by kernel_rfl
  f7 := ⟨Tryz.f127.name, by decide, Tryz.func127.trans (congrArg some (by kernel_rfl))⟩
  f10 := ⟨Tryz.f173.name, by decide, Tryz.func173.trans (congrArg some (by kernel_rfl))⟩
  t0 := Tryz.underlying0
  a0 := Tryz.isAgg0
  z0 := Tryz.sizeOf0
  v0 := Tryz.zeroValue0
  t4 := Tryz.underlying4
  a4 := Tryz.isAgg4
  z4 := Tryz.sizeOf4
  v4 := Tryz.zeroValue4
  t23 := Tryz.underlying117
  a23 := Tryz.isAgg117
  z23 := Tryz.sizeOf117
  v23 := Tryz.zeroValue117
  t26 := Tryz.underlying3
  a26 := Tryz.isAgg3
  z26 := Tryz.sizeOf3
  v26 := Tryz.zeroValue3
  t27 := Tryz.underlying129
  a27 := Tryz.isAgg129
  z27 := Tryz.sizeOf129
  v27 := Tryz.zeroValue129
  t28 := Tryz.underlying214
  a28 := Tryz.isAgg214
  z28 := Tryz.sizeOf214
  v28 := Tryz.zeroValue214
  t33 := Tryz.underlying128
  a33 := Tryz.isAgg128
  z33 := Tryz.sizeOf128
  v33 := Tryz.zeroValue128 }
def Tryz.sortedA_ren : Go.Shelf.Ren := ⟨fun | 6 => 126 | 8 => 171 | 9 => 172 | 11 => 249 | 13 => 142 | 12 => 250 | 23 => 211 | 24 => 212 | 14 => 314 | 15 => 315 | 16 => 316 | 17 => 317 | 18 => 318 | 19 => 319 | 20 => 320 | 21 => 321 | 22 => 322 | 25 => 357 | 26 => 283 | 27 => 284 | 28 => 358 | 29 => 359 | 30 => 144 | 31 => 369 | n => n, fun | 26 => 3 | 28 => 214 | 24 => 22 | 0 => 0 | 3 => 3 | 37 => 231 | 48 => 286 | 50 => 288 | 4 => 4 | 40 => 280 | 39 => 279 | 45 => 219 | 5 => 5 | 9 => 9 | 51 => 372 | 55 => 376 | 57 => 422 | 58 => 321 | 33 => 128 | n => n, fun | n => n⟩
theorem Tryz.sortedA : Go.Proofs.SlLaysZI.n6 Tryz.prog Tryz.sortedA_ren := {
  mixed := by kernel_rfl
  f6 := ⟨Tryz.f126.name, by decide, Tryz.func126.trans (congrArg some (by kernel_rfl))⟩
  f8 := ⟨Tryz.f171.name, by decide, Tryz.func171.trans (congrArg some (by kernel_rfl))⟩
  f11 := ⟨Tryz.f249.name, by decide, Tryz.func249.trans (congrArg some (by kernel_rfl))⟩
  t0 := Tryz.underlying0
  a0 := Tryz.isAgg0
  z0 := Tryz.sizeOf0
  v0 := Tryz.zeroValue0
  t24 := Tryz.underlying22
  a24 := Tryz.isAgg22
  z24 := Tryz.sizeOf22
  v24 := Tryz.zeroValue22
  t26 := Tryz.underlying3
  a26 := Tryz.isAgg3
  z26 := Tryz.sizeOf3
  v26 := Tryz.zeroValue3
  t28 := Tryz.underlying214
  a28 := Tryz.isAgg214
  z28 := Tryz.sizeOf214
  v28 := Tryz.zeroValue214
  i26 := by kernel_rfl }
def Tryz.sortA_ren : Go.Shelf.Ren := ⟨fun | 5 => 172 | 8 => 142 | 7 => 250 | 19 => 211 | 20 => 212 | 10 => 314 | 11 => 315 | 12 => 316 | 13 => 317 | 14 => 318 | 15 => 319 | 16 => 320 | 17 => 321 | 18 => 322 | 30 => 357 | 31 => 283 | 32 => 284 | 33 => 358 | 34 => 359 | 35 => 144 | 40 => 369 | n => n, fun | 23 => 22 | 25 => 3 | 3 => 3 | 32 => 231 | 22 => 22 | 0 => 0 | 44 => 286 | 46 => 288 | 4 => 4 | 36 => 280 | 35 => 279 | 41 => 219 | 5 => 5 | 9 => 9 | 53 => 372 | 57 => 376 | 63 => 422 | 64 => 321 | n => n, fun | n => n⟩
theorem Tryz.sortA : Go.Proofs.SlLaysM.n5 Tryz.prog Tryz.sortA_ren := {
  mixed := by kernel_rfl
  f5 := ⟨Tryz.f172.name, by decide, Tryz.func172.trans (congrArg some (by kernel_rfl))⟩
  f7 := ⟨Tryz.f250.name, by decide, Tryz.func250.trans (congrArg some (by kernel_rfl))⟩
  f8 := Tryz.func142.trans (congrArg some (by kernel_rfl))
  f10 := ⟨Tryz.f314.name, by decide, Tryz.func314.trans (congrArg some (by kernel_rfl))⟩
  f11 := ⟨Tryz.f315.name, by decide, Tryz.func315.trans (congrArg some (by kernel_rfl))⟩
  f12 := ⟨Tryz.f316.name, by decide, Tryz.func316.trans (congrArg some (by kernel_rfl))⟩
  f13 := ⟨Tryz.f317.name, by decide, Tryz.func317.trans (congrArg some (by kernel_rfl))⟩
  f14 := ⟨Tryz.f318.name, by decide, Tryz.func318.trans (congrArg some (by kernel_rfl))⟩
  f15 := ⟨Tryz.f319.name, by decide, Tryz.func319.trans (congrArg some (by kernel_rfl))⟩
  f16 := ⟨Tryz.f320.name, by decide, Tryz.func320.trans (congrArg some (by kernel_rfl))⟩
  f17 := ⟨Tryz.f321.name, by decide, Tryz.func321.trans (congrArg some (by kernel_rfl))⟩
  f18 := ⟨Tryz.f322.name, by decide, Tryz.func322.trans (congrArg some (by kernel_rfl))⟩
  f19 := Tryz.func211.trans (congrArg some (by kernel_rfl))
  f20 := Tryz.func212.trans (congrArg some (by kernel_rfl))
  f30 := ⟨Tryz.f357.name, by decide, Tryz.func357.trans (congrArg some (by kernel_rfl))⟩
  f31 := Tryz.func283.trans (congrArg some (by kernel_rfl))
  f32 := Tryz.func284.trans (congrArg some (by kernel_rfl))
  f33 := ⟨Tryz.f358.name, by decide, Tryz.func358.trans (congrArg some (by kernel_rfl))⟩
  f34 := ⟨Tryz.f359.name, by decide, Tryz.func359.trans (congrArg some (by kernel_rfl))⟩
  f35 := ⟨Tryz.f144.name, by decide, Tryz.func144.trans (congrArg some (by kernel_rfl))⟩
  f40 := ⟨Tryz.f369.name, by decide, Tryz.func369.trans (congrArg some (by kernel_rfl))⟩
  t0 := Tryz.underlying0
  a0 := Tryz.isAgg0
  z0 := Tryz.sizeOf0
  v0 := Tryz.zeroValue0
  t3 := Tryz.underlying3
  a3 := Tryz.isAgg3
  z3 := Tryz.sizeOf3
  v3 := Tryz.zeroValue3
  t4 := Tryz.underlying4
  a4 := Tryz.isAgg4
  z4 := Tryz.sizeOf4
  v4 := Tryz.zeroValue4
  t5 := Tryz.underlying5
  a5 := Tryz.isAgg5
  z5 := Tryz.sizeOf5
  v5 := Tryz.zeroValue5
  t9 := Tryz.underlying9
  a9 := Tryz.isAgg9
  z9 := Tryz.sizeOf9
  v9 := Tryz.zeroValue9
  t22 := Tryz.underlying22
  a22 := Tryz.isAgg22
  z22 := Tryz.sizeOf22
  v22 := Tryz.zeroValue22
  t23 := Tryz.underlying22
  a23 := Tryz.isAgg22
  z23 := Tryz.sizeOf22
  v23 := Tryz.zeroValue22
  t25 := Tryz.underlying3
  a25 := Tryz.isAgg3
  z25 := Tryz.sizeOf3
  v25 := Tryz.zeroValue3
  t32 := Tryz.underlying231
  a32 := Tryz.isAgg231
  z32 := Tryz.sizeOf231
  v32 := Tryz.zeroValue231
  t35 := Tryz.underlying279
  a35 := Tryz.isAgg279
  z35 := Tryz.sizeOf279
  v35 := Tryz.zeroValue279
  t36 := Tryz.underlying280
  a36 := Tryz.isAgg280
  z36 := Tryz.sizeOf280
  v36 := Tryz.zeroValue280
  t41 := Tryz.underlying219
  a41 := Tryz.isAgg219
  z41 := Tryz.sizeOf219
  v41 := Tryz.zeroValue219
  t44 := Tryz.underlying286
  a44 := Tryz.isAgg286
  z44 := Tryz.sizeOf286
  v44 := Tryz.zeroValue286
  t46 := Tryz.underlying288
  a46 := Tryz.isAgg288
  z46 := Tryz.sizeOf288
  v46 := Tryz.zeroValue288
  t53 := Tryz.underlying372
  a53 := Tryz.isAgg372
  z53 := Tryz.sizeOf372
  v53 := Tryz.zeroValue372
  t57 := Tryz.underlying376
  a57 := Tryz.isAgg376
  z57 := Tryz.sizeOf376
  v57 := Tryz.zeroValue376
  t63 := Tryz.underlying422
  a63 := Tryz.isAgg422
  z63 := Tryz.sizeOf422
  v63 := Tryz.zeroValue422
  t64 := Tryz.underlying321
  a64 := Tryz.isAgg321
  z64 := Tryz.sizeOf321
  v64 := Tryz.zeroValue321 }
end Go.Proofs
