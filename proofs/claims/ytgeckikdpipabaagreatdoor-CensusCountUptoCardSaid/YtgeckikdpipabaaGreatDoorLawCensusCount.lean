/- The row of the law CensusCount, where what it reads is of bounded bulk: for every such input the law returns true. Its walk: the text PureCensusCount. Conditions: none beyond the given row's own. -/
import Derived.Test.YtgeckikdpipabaaGreatDoorRows
import Derived.Test.YtgeckikdpipabaaGreatDoorPureCensusCount
import Derived.Test.YtgeckikdpipabaaGreatDoorOpenNodes
import Derived.Test.YtgeckikdpipabaaGreatDoorFacts
import Derived.Test.YtgeckikdpipabaaGreatDoorCards
import Derived.Test.YtgeckikdpipabaaGreatDoorTie
import Derived.WalkKit
import Derived.ProofKit
import Derived.OpenShut
import Derived.ShutString
import Derived.ChangeOld
import Derived.Below
import Derived.SizedLaws
import Derived.Lib.SmallJoins
import Derived.LaidMore
import Derived.Lay
import Derived.SevenTiedAt
import Derived.Stop.Joined
import Derived.LaidOnce
import Derived.Deep.DeepHandedRow
import Derived.Lib.LaidTab
namespace Go.Proofs.YtgeckikdpipabaaGreatDoor.censusCount
open Go.ChangeShapes Go.WideShapes Go.ChangeAt Go.RowKit Go.Joins
set_option linter.unusedVariables false
theorem own : ownKnob Tryz.prog.godebug = none := by kernel_rfl
theorem laidOut : laidOutB Tryz.prog = true := by kernel_rfl
section
variable {H : Type}
theorem bulk_pos (d : DataW H) : 1 ≤ Rows.uptoBulk d := by
  cases d with
  | lit l => cases l <;> simp [Rows.uptoBulk]
  | _ => simp [Rows.uptoBulk]
theorem bulk_len : ∀ l : List (DataW H), l.length ≤ Rows.uptoBulkAll l
  | [] => Nat.zero_le _
  | d :: l => by
    have h1 := bulk_pos d
    have h2 := bulk_len l
    simp only [Rows.uptoBulkAll, List.length_cons]
    omega
theorem bulk_row {d : DataW H} {L : List Cns.Nd} {es sp : List (DataW H)} (h : (d = .slice es sp ∧ L.length ≤ es.length) ∨ L = []) : L.length ≤ Rows.uptoBulk d := by
  rcases h with ⟨rfl, h⟩ | rfl
  · have := bulk_len es
    simp only [Rows.uptoBulk]
    omega
  · exact Nat.zero_le _
end
theorem laid_met (os : Os) : laidMetH Tryz.prog Rows.censusCountUptoRow.laid ((World.laidAll Tryz.prog os Rows.censusCountUptoRow.laid).forCall (fun _ _ => 0) ⟨#[], #[.slice none 0 0, .slice none 0 0], []⟩).memory := by
  rw [MakeChecks.laidMetH_plain _ _ _ (by kernel_rfl)]
  exact laidMet_laidAll _ (by kernel_rfl) (by kernel_rfl)
theorem reads (os : Os) {H : Type} (enc : TypeId × Value → H) : ∃ places, DataW.whole enc Tryz.prog ((World.laidAll Tryz.prog os Rows.censusCountUptoRow.laid).forCall (fun _ _ => 0) ⟨#[], #[.slice none 0 0, .slice none 0 0], []⟩).memory Tryz.f3.params.toList Rows.censusCountSpec.vars false #[Value.slice none 0 0, Value.slice none 0 0].toList 8 = some ([.nil, .nil], [], places) :=
  ⟨[], by kernel_rfl⟩
set_option maxRecDepth 100000 in
theorem lifted (os : Os) (started : os.Started) (H : Type) (enc : TypeId × Value → H) (F : Stop.Interp) :
    ReturnsInHanded {} Tryz.checked os 3 .any ((Rows.OpenSpec.upto Rows.censusCountSpec).preRow enc Tryz.prog Tryz.f3 Rows.censusCountUptoRow.domain false Rows.censusCountUptoRow.laid) (((Rows.OpenSpec.upto Rows.censusCountSpec).at F).post enc Tryz.prog Tryz.f3 false true false false) := by
  obtain ⟨places, hx⟩ := reads os enc
  refine returnsInHanded_of_row (C := Tryz.checked) (s := Rows.OpenSpec.upto Rows.censusCountSpec) own started (by kernel_rfl) Tryz.func3
    (witness_row_at (enc := enc) (C := Tryz.checked) false (World.laidAll Tryz.prog os Rows.censusCountUptoRow.laid) #[.slice none 0 0, .slice none 0 0] (World.laidAll_os _ _ _) (by kernel_rfl) (by kernel_rfl) (by kernel_rfl)
      (OpenSpec.preRow_of_cond 8 hx (by kernel_rfl) (fun k hk => by cases hk; kernel_rfl) (by kernel_rfl) (laid_met os))) ?_
  intro W base args ds gs before hval hW _ hcond _ hL _ _
  have hk := hcond _ rfl
  have hW' := hW
  obtain ⟨p, q, hA0, hV, rfl, hfz, hnd⟩ := hW
  have hA : DataW.TrodAll enc Tryz.prog W 0 (fun _ => true) true Tryz.f3.params.toList args.toList ds p := hA0
  rw [Tryz.params3] at hA hval
  obtain ⟨v0, vs0, d0, ds0, p0, q0, hargs, rfl, rfl, h0, r0⟩ := trodAll_cons hA
  obtain ⟨v1, vs1, d1, ds1, p1, q1, rfl, rfl, rfl, h1, r1⟩ := trodAll_cons r0
  obtain ⟨rfl, rfl, rfl⟩ := trodAll_nil r1
  obtain rfl : args = #[v0, v1] := by cases args; simp_all
  obtain ⟨rfl, rfl⟩ := trodVars_none hV
  have k0 := h0
  have lt0 : ∀ x ∈ p0, x.block < W.heap.size := by obtain ⟨m, hm⟩ := k0; exact DataW.trod_lt m _ _ _ hm
  have k1 := h1
  have lt1 : ∀ x ∈ p1, x.block < W.heap.size := by obtain ⟨m, hm⟩ := k1; exact DataW.trod_lt m _ _ _ hm
  have hk2 : Rows.uptoBulkAll ([d0, d1] ++ ([] : List (DataW H))) ≤ 1048576 := of_decide_eq_true hk
  simp only [List.append_nil, Rows.uptoBulkAll] at hk2
  have walk : Calls Tryz.prog 3 #[v0, v1] W fun e w' => e = .returned (.bool true) ∧ Below W.heap.size W w' := by
    obtain ⟨x0, y0, z0, rfl⟩ := okWide_slice Tryz.underlying22 (hval 0 22 v0 rfl rfl)
    obtain ⟨x1, y1, z1, rfl⟩ := okWide_slice Tryz.underlying22 (hval 1 22 v1 rfl rfl)
    obtain ⟨m0, g0⟩ := h0
    obtain ⟨m1, g1⟩ := h1
    obtain ⟨A, c, L, eA, lA, nA, rA, es0, sp0, hes0⟩ := Opens.row_nodes (show DataW.trod enc Tryz.prog W 0 (fun _ => true) true m0 22 [Value.slice x0 y0 z0] = some (d0, p0) from g0)
    obtain ⟨B, d, M, eB, lB, nB, rB, es1, sp1, hes1⟩ := Opens.row_nodes (show DataW.trod enc Tryz.prog W 0 (fun _ => true) true m1 22 [Value.slice x1 y1 z1] = some (d1, p1) from g1)
    have b0 : L.length ≤ Rows.uptoBulk d0 := bulk_row hes0
    have b1 : M.length ≤ Rows.uptoBulk d1 := bulk_row hes1
    rw [eA, eB]
    exact Count.CensusCount_walk A c L B d M W (fun h => ⟨nA h, List.eq_nil_of_length_eq_zero (by have := nA h; omega)⟩) (fun h => ⟨nB h, List.eq_nil_of_length_eq_zero (by have := nB h; omega)⟩) (by omega) (by omega) rA rB
  clear hA0
  refine walk.mono fun e W' ⟨he, bel⟩ => ?_
  subst he
  exact ⟨_, rfl, _, _, _, [], _, [], hW', trodAll_mk1 (shut_bool Tryz.underlying4 _), (trodAll_cons_mk (Below.trod laidOut (by kernel_rfl) (of_decide_eq_true (by kernel_rfl)) k0 bel lt0) (trodAll_cons_mk (Below.trod laidOut (by kernel_rfl) (of_decide_eq_true (by kernel_rfl)) k1 bel lt1) trodAll_mk0)), rfl, bel.frame _, fun h => by cases h⟩
theorem over : Rows.CensusCountUptoSaid :=
  OpenClaim.holds_of_cond 3 Tryz.f3 rfl rfl rfl rfl rfl rfl rfl ⟨rfl, rfl, rfl, rfl, rfl⟩ rfl rfl rfl rfl rfl rowNamed Tryz.func3 closed
    (of_decide_eq_true (by kernel_rfl)) (by unfold Func.isWrapper; first | (rw [if_pos (by decide +kernel)]; kernel_rfl) | (rw [if_neg (by decide +kernel)]; exact ⟨rfl, rfl⟩))
    (fun os started H enc _ F => by rw [OpenClaim.pre_eq_preRow]; exact lifted os started H enc F)
theorem card : Rows.CensusCountUptoCardSaid :=
  Claim7.holds_tied_plain_at .later [] _ _ _ _ over (fun _ h => by cases h) cardWf (fun _ h => by cases h) censusCountUpto_row_tie rfl ⟨rfl, rfl⟩ cardMain rfl
    (fun f fn hf hfn => by
      obtain rfl : f = 3 := Option.some.inj (cardNamed.symm.trans hf) |>.symm
      obtain rfl : fn = Tryz.f3 := (Option.some.inj (Tryz.func3.symm.trans hfn)).symm
      exact ⟨cardLooks, fun j t ht => by
        rw [Tryz.params3] at ht
        have hm : t ∈ ([22, 22] : List Nat) := by simpa using Array.mem_of_getElem? ht
        have hall := cardStand
        exact (show Tryz.prog.wantsStandIn t = false by simpa using List.all_eq_true.1 hall t hm)⟩)
    cardGoes
#print axioms card
end Go.Proofs.YtgeckikdpipabaaGreatDoor.censusCount
namespace Go.Proofs.YtgeckikdpipabaaGreatDoor
/-- The statement, under a short name, for the claim. -/
theorem censusCountUpto_holds : Rows.CensusCountUptoCardSaid := censusCount.card
end Go.Proofs.YtgeckikdpipabaaGreatDoor
