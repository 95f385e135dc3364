/- The row of the law DeskPlaces: for every input the law returns true. Its walk: YtdomphkodeamgaaGreatDoorPureDeskPlaces. Conditions: none beyond the given row's own. -/
import Derived.Test.YtdomphkodeamgaaGreatDoorRows
import Derived.Test.YtdomphkodeamgaaGreatDoorPureDeskPlaces
import Derived.Test.YtdomphkodeamgaaGreatDoorFacts
import Derived.Test.YtdomphkodeamgaaGreatDoorOpenInts
import Derived.Test.YtdomphkodeamgaaGreatDoorCards
import Derived.Test.YtdomphkodeamgaaGreatDoorTie
import Derived.WalkKit
import Derived.ProofKit
import Derived.OpenShut
import Derived.ShutString
import Derived.ChangeOld
import Derived.Below
import Derived.SizedLaws
import Derived.Lib.SmallJoins
import Derived.LaidMore
import Derived.Lay
import Derived.SevenTiedAt
import Derived.Stop.Joined
import Derived.LaidOnce
namespace Go.Proofs.YtdomphkodeamgaaGreatDoor.deskPlaces
open Go.ChangeShapes Go.WideShapes Go.ChangeAt Go.RowKit Go.Joins
open Go.ChangeMaps (open_string shut_string)
set_option linter.unusedVariables false
theorem own : ownKnob Tryz.prog.godebug = none := by kernel_rfl
theorem laidOut : laidOutB Tryz.prog = true := by kernel_rfl
set_option maxRecDepth 100000 in
theorem lifted (os : Os) (started : os.Started) (H : Type) (enc : TypeId × Value → H) :
    ReturnsInHanded {} Tryz.checked os 3 .any (fun w args => (Rows.deskPlacesSpec.pre enc Tryz.prog Tryz.f3 Rows.deskPlacesRow.domain false w args ∧ laidMetH Tryz.prog Rows.deskPlacesRow.laid w) ∧ sizedMet enc Tryz.prog Tryz.f3 (OpenSpec.ofChange Rows.deskPlacesSpec) false w args)
      (Rows.deskPlacesSpec.post enc Tryz.prog Tryz.f3 false true false false) := by
  refine returnsInHanded_of_change_and (C := Tryz.checked) (X := fun w _ => laidMetH Tryz.prog Rows.deskPlacesRow.laid w) (fun _ _ _ hh h => h.of_heap hh) own started (by kernel_rfl) Tryz.func3
    (ChangeSpec.witness_shaped (enc := enc) (C := Tryz.checked) (os := os) (X := fun w _ => laidMetH Tryz.prog Rows.deskPlacesRow.laid w) false (World.laidAll Tryz.prog os Rows.deskPlacesRow.laid) #[.bool false, .slice none 0 0] 8 (World.laidAll_os _ _ _)
      (World.shaped_of_ZipB (by kernel_rfl) (by kernel_rfl)) (by kernel_rfl) (by kernel_rfl) (by kernel_rfl)
      (by rw [MakeChecks.laidMetH_plain _ _ _ (by kernel_rfl)]; exact laidMet_laidAll _ (by kernel_rfl) (by kernel_rfl))) ?_
  intro W base args ds gs before hval0 hW hcnd hsz0 hL _
  have hsz : (DataW.weightsEach Tryz.prog (Tryz.f3.params.toList ++ Rows.deskPlacesSpec.plain.varTypes Tryz.prog) (ds ++ gs)).all (· ≤ reachBytes) = true := hsz0
  have hval : ∀ (j : Nat) t v, Tryz.f3.params[j]? = some t → args[j]? = some v → Value.okWide Tryz.prog W .any base t v := hval0
  have hW' := hW
  obtain ⟨p, q, hA0, hV, rfl, hfz, hnd⟩ := hW
  have hA : DataW.TrodAll enc Tryz.prog W 0 (fun _ => true) true Tryz.f3.params.toList args.toList ds p := hA0
  rw [Tryz.params3] at hA hval hsz
  obtain ⟨v0, vs0, d0, ds0, p0, q0, hargs, rfl, rfl, h0, r0⟩ := trodAll_cons hA
  obtain ⟨v1, vs1, d1, ds1, p1, q1, rfl, rfl, rfl, h1, r1⟩ := trodAll_cons r0
  obtain ⟨rfl, rfl, rfl⟩ := trodAll_nil r1
  obtain rfl : args = #[v0, v1] := by cases args; simp_all
  obtain ⟨rfl, rfl⟩ := trodVars_none hV
  have k1 := h1
  have lt1 : ∀ x ∈ p1, x.block < W.heap.size := by obtain ⟨m, hm⟩ := k1; exact DataW.trod_lt m _ _ _ hm
  obtain ⟨a0, rfl, rfl, rfl⟩ := open_bool Tryz.underlying4 (hval 0 4 v0 rfl rfl) h0
  obtain ⟨y0, y1, y2, rfl⟩ := okWide_slice Tryz.underlying22 (hval 1 22 v1 rfl rfl)
  obtain ⟨m1, g1⟩ := h1
  obtain ⟨A, c, l, eA, hc, hmax, hr⟩ := Opens.row_ints (show DataW.trod enc Tryz.prog W 0 (fun _ => true) true m1 22 [Value.slice y0 y1 y2] = some (d1, p1) from g1)
  simp only [Value.slice.injEq] at eA
  obtain ⟨rfl, rfl, rfl⟩ := eA
  clear hA0 hval0 hsz0 hsz
  refine (Pure.DeskPlaces_walk a0 y0 y2 l W hmax hc hr).mono fun e W' ⟨he, bel⟩ => ?_
  subst he
  exact ⟨_, rfl, _, _, _, [], _, [], hW', trodAll_mk1 (shut_bool Tryz.underlying4 _), (trodAll_cons_mk (shut_bool Tryz.underlying4 _) (trodAll_cons_mk (Below.trod laidOut (by kernel_rfl) (of_decide_eq_true (by kernel_rfl)) k1 bel lt1) trodAll_mk0)), rfl, bel.frame _, fun h => by cases h⟩
theorem over : Rows.deskPlacesRow.holds Tryz.pinned (OpenSpec.ofChange Rows.deskPlacesSpec) :=
  OpenClaim.holds_of_wide 3 Tryz.f3 rfl rfl rfl rfl rfl rfl rfl ⟨rfl, rfl, rfl, rfl, rfl⟩ rfl rfl rfl rfl rfl rowNamed Tryz.func3 closed
    (of_decide_eq_true (by kernel_rfl)) (by unfold Func.isWrapper; first | (rw [if_pos (by decide +kernel)]; kernel_rfl) | (rw [if_neg (by decide +kernel)]; exact ⟨rfl, rfl⟩))
    (fun os started H enc _ => lifted os started H enc)
theorem proved : Rows.DeskPlacesSaid := over
theorem card : Rows.DeskPlacesCardSaid :=
  Claim7.holds_tied_plain_at .later [] [.data, .pinned] true (true, "d9db704d59265d53fe1d7896f4222db522af4778cc1d12b44bdaecdfe3abc3a3") false proved (fun _ h => by cases h) cardWf (fun _ h => by cases h) deskPlaces_row_tie rfl ⟨rfl, rfl⟩ cardMain rfl
    (fun f fn hf hfn => by
      obtain rfl : f = 3 := Option.some.inj (cardNamed.symm.trans hf) |>.symm
      obtain rfl : fn = Tryz.f3 := (Option.some.inj (Tryz.func3.symm.trans hfn)).symm
      exact ⟨cardLooks, fun j t ht => by
        rw [Tryz.params3] at ht
        have hm : t ∈ ([4, 22] : List Nat) := by simpa using Array.mem_of_getElem? ht
        have hall := cardStand
        exact (show Tryz.prog.wantsStandIn t = false by simpa using List.all_eq_true.1 hall t hm)⟩)
    cardGoes
#print axioms card
end Go.Proofs.YtdomphkodeamgaaGreatDoor.deskPlaces
namespace Go.Proofs.YtdomphkodeamgaaGreatDoor
/-- The statement, under a short name, for the claim. -/
theorem deskPlaces_holds : Rows.DeskPlacesCardSaid := deskPlaces.card
end Go.Proofs.YtdomphkodeamgaaGreatDoor
