/- The row of the law HouseNil: for every input the law returns true. Its walk: YtcbpgpfkpokgfaaGreatDoorPureHouseNil. Conditions: none beyond the given row's own. -/
import Derived.Test.YtcbpgpfkpokgfaaGreatDoorRows
import Derived.Test.YtcbpgpfkpokgfaaGreatDoorPureHouseNil
import Derived.Test.YtcbpgpfkpokgfaaGreatDoorFacts
import Derived.Test.YtcbpgpfkpokgfaaGreatDoorOpenOp
import Derived.Test.YtcbpgpfkpokgfaaGreatDoorCards
import Derived.Test.YtcbpgpfkpokgfaaGreatDoorTie
import Derived.WalkKit
import Derived.ProofKit
import Derived.OpenShut
import Derived.ShutString
import Derived.ChangeOld
import Derived.Below
import Derived.SizedLaws
import Derived.Lib.SmallJoins
import Derived.LaidMore
import Derived.Lay
import Derived.SevenTiedAt
import Derived.Stop.Joined
import Derived.LaidOnce
namespace Go.Proofs.YtcbpgpfkpokgfaaGreatDoor.houseNil
open Go.ChangeShapes Go.WideShapes Go.ChangeAt Go.RowKit Go.Joins
open Go.ChangeMaps (open_string shut_string)
set_option linter.unusedVariables false
theorem own : ownKnob Tryz.prog.godebug = none := by kernel_rfl
theorem laidOut : laidOutB Tryz.prog = true := by kernel_rfl
set_option maxRecDepth 100000 in
theorem lifted (os : Os) (started : os.Started) (H : Type) (enc : TypeId × Value → H) :
    ReturnsInHanded {} Tryz.checked os 3 .any (fun w args => (Rows.houseNilSpec.pre enc Tryz.prog Tryz.f3 Rows.houseNilRow.domain false w args ∧ laidMetH Tryz.prog Rows.houseNilRow.laid w) ∧ sizedMet enc Tryz.prog Tryz.f3 (OpenSpec.ofChange Rows.houseNilSpec) false w args)
      (Rows.houseNilSpec.post enc Tryz.prog Tryz.f3 false true false false) := by
  refine returnsInHanded_of_change_and (C := Tryz.checked) (X := fun w _ => laidMetH Tryz.prog Rows.houseNilRow.laid w) (fun _ _ _ hh h => h.of_heap hh) own started (by kernel_rfl) Tryz.func3
    (ChangeSpec.witness_shaped (enc := enc) (C := Tryz.checked) (os := os) (X := fun w _ => laidMetH Tryz.prog Rows.houseNilRow.laid w) false (World.laidAll Tryz.prog os Rows.houseNilRow.laid) #[.agg #[.int .i64 0, .string ByteArray.empty, .string ByteArray.empty, .string ByteArray.empty, .int .i64 0, .int .i64 0, .slice none 0 0]] 8 (World.laidAll_os _ _ _)
      (World.shaped_of_ZipB (by kernel_rfl) (by kernel_rfl)) (by kernel_rfl) (by kernel_rfl) (by kernel_rfl)
      (by rw [MakeChecks.laidMetH_plain _ _ _ (by kernel_rfl)]; exact laidMet_laidAll _ (by kernel_rfl) (by kernel_rfl))) ?_
  intro W base args ds gs before hval0 hW hcnd hsz0 hL _
  have hsz : (DataW.weightsEach Tryz.prog (Tryz.f3.params.toList ++ Rows.houseNilSpec.plain.varTypes Tryz.prog) (ds ++ gs)).all (· ≤ reachBytes) = true := hsz0
  have hval : ∀ (j : Nat) t v, Tryz.f3.params[j]? = some t → args[j]? = some v → Value.okWide Tryz.prog W .any base t v := hval0
  have hW' := hW
  obtain ⟨p, q, hA0, hV, rfl, hfz, hnd⟩ := hW
  have hA : DataW.TrodAll enc Tryz.prog W 0 (fun _ => true) true Tryz.f3.params.toList args.toList ds p := hA0
  rw [Tryz.params3] at hA hval hsz
  obtain ⟨v0, vs0, d0, ds0, p0, q0, hargs, rfl, rfl, h0, r0⟩ := trodAll_cons hA
  obtain ⟨rfl, rfl, rfl⟩ := trodAll_nil r0
  obtain rfl : args = #[v0] := by cases args; simp_all
  obtain ⟨rfl, rfl⟩ := trodVars_none hV
  have k0 := h0
  have lt0 : ∀ x ∈ p0, x.block < W.heap.size := by obtain ⟨m, hm⟩ := k0; exact DataW.trod_lt m _ _ _ hm
  obtain ⟨a0, a1, a2, a3, a4, a5, a6, rfl, hS⟩ := Opens.op (hval 0 24 v0 rfl rfl)
  clear hA0 hval0 hsz0 hsz
  refine (Pure.HouseNil_walk a0 a1 a2 a3 a4 a5 a6 hS W).mono fun e W' ⟨he, bel⟩ => ?_
  subst he
  exact ⟨_, rfl, _, _, _, [], _, [], hW', trodAll_mk1 (shut_bool Tryz.underlying4 _), (trodAll_cons_mk (Below.trod laidOut (by kernel_rfl) (of_decide_eq_true (by kernel_rfl)) k0 bel lt0) trodAll_mk0), rfl, bel.frame _, fun h => by cases h⟩
theorem over : Rows.houseNilRow.holds Tryz.pinned (OpenSpec.ofChange Rows.houseNilSpec) :=
  OpenClaim.holds_of_wide 3 Tryz.f3 rfl rfl rfl rfl rfl rfl rfl ⟨rfl, rfl, rfl, rfl, rfl⟩ rfl rfl rfl rfl rfl rowNamed Tryz.func3 closed
    (of_decide_eq_true (by kernel_rfl)) (by unfold Func.isWrapper; first | (rw [if_pos (by decide +kernel)]; kernel_rfl) | (rw [if_neg (by decide +kernel)]; exact ⟨rfl, rfl⟩))
    (fun os started H enc _ => lifted os started H enc)
theorem proved : Rows.HouseNilSaid := over
theorem card : Rows.HouseNilCardSaid :=
  Claim7.holds_tied_plain_at .later [] [.data, .pinned] true (true, "2c8d86e9ad0d22e5c74f7e0ab38bff560e9085bdf4e82bde3f76e84af135015c") false proved (fun _ h => by cases h) cardWf (fun _ h => by cases h) houseNil_row_tie rfl ⟨rfl, rfl⟩ cardMain rfl
    (fun f fn hf hfn => by
      obtain rfl : f = 3 := Option.some.inj (cardNamed.symm.trans hf) |>.symm
      obtain rfl : fn = Tryz.f3 := (Option.some.inj (Tryz.func3.symm.trans hfn)).symm
      exact ⟨cardLooks, fun j t ht => by
        rw [Tryz.params3] at ht
        have hm : t ∈ ([24] : List Nat) := by simpa using Array.mem_of_getElem? ht
        have hall := cardStand
        exact (show Tryz.prog.wantsStandIn t = false by simpa using List.all_eq_true.1 hall t hm)⟩)
    cardGoes
#print axioms card
end Go.Proofs.YtcbpgpfkpokgfaaGreatDoor.houseNil
namespace Go.Proofs.YtcbpgpfkpokgfaaGreatDoor
/-- The statement, under a short name, for the claim. -/
theorem houseNil_holds : Rows.HouseNilCardSaid := houseNil.card
end Go.Proofs.YtcbpgpfkpokgfaaGreatDoor
