/- The row of the law TurnFits: for every input the law returns true. Its walk: YtgljlgchfahjdaaGreatDoorPureTurnFits. Conditions: none beyond the given row's own. -/
import Derived.Test.YtgljlgchfahjdaaGreatDoorRows
import Derived.Test.YtgljlgchfahjdaaGreatDoorPureTurnFits
import Derived.Test.YtgljlgchfahjdaaGreatDoorFacts
import Derived.Test.YtgljlgchfahjdaaGreatDoorOpenTurn
import Derived.Test.YtgljlgchfahjdaaGreatDoorCards
import Derived.Test.YtgljlgchfahjdaaGreatDoorTie
import Derived.WalkKit
import Derived.ProofKit
import Derived.OpenShut
import Derived.ShutString
import Derived.ChangeOld
import Derived.Below
import Derived.SizedLaws
import Derived.Lib.SmallJoins
import Derived.LaidMore
import Derived.Lay
import Derived.SevenTiedAt
import Derived.Stop.Joined
import Derived.LaidOnce
namespace Go.Proofs.YtgljlgchfahjdaaGreatDoor.turnFits
open Go.ChangeShapes Go.WideShapes Go.ChangeAt Go.RowKit Go.Joins
open Go.ChangeMaps (open_string shut_string)
set_option linter.unusedVariables false
theorem own : ownKnob Tryz.prog.godebug = none := by kernel_rfl
theorem laidOut : laidOutB Tryz.prog = true := by kernel_rfl
set_option maxRecDepth 100000 in
theorem lifted (os : Os) (started : os.Started) (H : Type) (enc : TypeId × Value → H) :
    ReturnsInHanded {} Tryz.checked os 3 .any (fun w args => (Rows.turnFitsSpec.pre enc Tryz.prog Tryz.f3 Rows.turnFitsRow.domain false w args ∧ laidMetH Tryz.prog Rows.turnFitsRow.laid w) ∧ sizedMet enc Tryz.prog Tryz.f3 (OpenSpec.ofChange Rows.turnFitsSpec) false w args)
      (Rows.turnFitsSpec.post enc Tryz.prog Tryz.f3 false true false false) := by
  refine returnsInHanded_of_change_and (C := Tryz.checked) (X := fun w _ => laidMetH Tryz.prog Rows.turnFitsRow.laid w) (fun _ _ _ hh h => h.of_heap hh) own started (by kernel_rfl) Tryz.func3
    (ChangeSpec.witness_shaped (enc := enc) (C := Tryz.checked) (os := os) (X := fun w _ => laidMetH Tryz.prog Rows.turnFitsRow.laid w) false (World.laidAll Tryz.prog os Rows.turnFitsRow.laid) #[.agg #[.int .i64 0, .int .i64 0, .int .i64 0, .int .i64 0, .slice none 0 0, .int .i64 0, .int .i64 0, .slice none 0 0, .int .i64 0], .slice none 0 0, .agg #[.int .i64 0, .int .i64 0]] 8 (World.laidAll_os _ _ _)
      (World.shaped_of_ZipB (by kernel_rfl) (by kernel_rfl)) (by kernel_rfl) (by kernel_rfl) (by kernel_rfl)
      (by rw [MakeChecks.laidMetH_plain _ _ _ (by kernel_rfl)]; exact laidMet_laidAll _ (by kernel_rfl) (by kernel_rfl))) ?_
  intro W base args ds gs before hval0 hW hcnd hsz0 hL _
  have hsz : (DataW.weightsEach Tryz.prog (Tryz.f3.params.toList ++ Rows.turnFitsSpec.plain.varTypes Tryz.prog) (ds ++ gs)).all (· ≤ reachBytes) = true := hsz0
  have hval : ∀ (j : Nat) t v, Tryz.f3.params[j]? = some t → args[j]? = some v → Value.okWide Tryz.prog W .any base t v := hval0
  have hW' := hW
  obtain ⟨p, q, hA0, hV, rfl, hfz, hnd⟩ := hW
  have hA : DataW.TrodAll enc Tryz.prog W 0 (fun _ => true) true Tryz.f3.params.toList args.toList ds p := hA0
  rw [Tryz.params3] at hA hval hsz
  obtain ⟨v0, vs0, d0, ds0, p0, q0, hargs, rfl, rfl, h0, r0⟩ := trodAll_cons hA
  obtain ⟨v1, vs1, d1, ds1, p1, q1, rfl, rfl, rfl, h1, r1⟩ := trodAll_cons r0
  obtain ⟨v2, vs2, d2, ds2, p2, q2, rfl, rfl, rfl, h2, r2⟩ := trodAll_cons r1
  obtain ⟨rfl, rfl, rfl⟩ := trodAll_nil r2
  obtain rfl : args = #[v0, v1, v2] := by cases args; simp_all
  obtain ⟨rfl, rfl⟩ := trodVars_none hV
  have k0 := h0
  have lt0 : ∀ x ∈ p0, x.block < W.heap.size := by obtain ⟨m, hm⟩ := k0; exact DataW.trod_lt m _ _ _ hm
  have k1 := h1
  have lt1 : ∀ x ∈ p1, x.block < W.heap.size := by obtain ⟨m, hm⟩ := k1; exact DataW.trod_lt m _ _ _ hm
  have k2 := h2
  have lt2 : ∀ x ∈ p2, x.block < W.heap.size := by obtain ⟨m, hm⟩ := k2; exact DataW.trod_lt m _ _ _ hm
  obtain ⟨a0, a1, a2, a3, a5, a6, a8, A4, l4, c4, A7, l7, c7, rfl⟩ := Opens.card (hval 0 25 v0 rfl rfl)
  obtain ⟨x0, x1, rfl⟩ := Opens.pair (hval 2 26 v2 rfl rfl)
  obtain ⟨y0, y1, y2, rfl⟩ := okWide_slice Tryz.underlying22 (hval 1 22 v1 rfl rfl)
  obtain ⟨m1, g1⟩ := h1
  obtain ⟨A, c, m, eA, hc, hmax, hr⟩ := Opens.row_ints (show DataW.trod enc Tryz.prog W 0 (fun _ => true) true m1 22 [Value.slice y0 y1 y2] = some (d1, p1) from g1)
  simp only [Value.slice.injEq] at eA
  obtain ⟨rfl, rfl, rfl⟩ := eA
  clear hA0 hval0 hsz0 hsz
  refine (Pure.TurnFits_walk a0 a1 a2 a3 a5 a6 a8 A4 l4 c4 A7 l7 c7 y0 y2 m x0 x1 W hmax hc hr).mono fun e W' ⟨he, bel⟩ => ?_
  subst he
  exact ⟨_, rfl, _, _, _, [], _, [], hW', trodAll_mk1 (shut_bool Tryz.underlying4 _), (trodAll_cons_mk (Below.trod laidOut (by kernel_rfl) (of_decide_eq_true (by kernel_rfl)) k0 bel lt0) (trodAll_cons_mk (Below.trod laidOut (by kernel_rfl) (of_decide_eq_true (by kernel_rfl)) k1 bel lt1) (trodAll_cons_mk (Below.trod laidOut (by kernel_rfl) (of_decide_eq_true (by kernel_rfl)) k2 bel lt2) trodAll_mk0))), rfl, bel.frame _, fun h => by cases h⟩
theorem over : Rows.turnFitsRow.holds Tryz.pinned (OpenSpec.ofChange Rows.turnFitsSpec) :=
  OpenClaim.holds_of_wide 3 Tryz.f3 rfl rfl rfl rfl rfl rfl rfl ⟨rfl, rfl, rfl, rfl, rfl⟩ rfl rfl rfl rfl rfl rowNamed Tryz.func3 closed
    (of_decide_eq_true (by kernel_rfl)) (by unfold Func.isWrapper; first | (rw [if_pos (by decide +kernel)]; kernel_rfl) | (rw [if_neg (by decide +kernel)]; exact ⟨rfl, rfl⟩))
    (fun os started H enc _ => lifted os started H enc)
theorem proved : Rows.TurnFitsSaid := over
theorem card : Rows.TurnFitsCardSaid :=
  Claim7.holds_tied_plain_at .later [] [.data, .pinned] true (true, "9560d9420e9ba4dfec713f026d597669308c7c369f4b18791ef016eb7d02c6fc") false proved (fun _ h => by cases h) cardWf (fun _ h => by cases h) turnFits_row_tie rfl ⟨rfl, rfl⟩ cardMain rfl
    (fun f fn hf hfn => by
      obtain rfl : f = 3 := Option.some.inj (cardNamed.symm.trans hf) |>.symm
      obtain rfl : fn = Tryz.f3 := (Option.some.inj (Tryz.func3.symm.trans hfn)).symm
      exact ⟨cardLooks, fun j t ht => by
        rw [Tryz.params3] at ht
        have hm : t ∈ ([25, 22, 26] : List Nat) := by simpa using Array.mem_of_getElem? ht
        have hall := cardStand
        exact (show Tryz.prog.wantsStandIn t = false by simpa using List.all_eq_true.1 hall t hm)⟩)
    cardGoes
#print axioms card
end Go.Proofs.YtgljlgchfahjdaaGreatDoor.turnFits
namespace Go.Proofs.YtgljlgchfahjdaaGreatDoor
/-- The statement, under a short name, for the claim. -/
theorem turnFits_holds : Rows.TurnFitsCardSaid := turnFits.card
end Go.Proofs.YtgljlgchfahjdaaGreatDoor
