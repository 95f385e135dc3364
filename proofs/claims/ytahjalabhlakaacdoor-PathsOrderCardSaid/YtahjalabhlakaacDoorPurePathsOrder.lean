/- The plain law behind PathsOrder. Conditions: none. -/
import Derived.Test.YtahjalabhlakaacDoorPurePathsNames
import Derived.Test.YtahjalabhlakaacDoorGPthx5
namespace Go.Proofs.YtahjalabhlakaacDoor.Pure
open Go.RowKit Go.Proofs.YtahjalabhlakaacDoor.GPth Go.Proofs.YtahjalabhlakaacDoorW.PrintWords Go.Proofs.YtahjalabhlakaacDoorW.PrintLast Go.Proofs.YtahjalabhlakaacDoorW.PrintMore Go.Proofs.YtahjalabhlakaacDoor.Plain
theorem cmp_range : ∀ a b : List UInt8, Lib.compareBytes a b = -1 ∨ Lib.compareBytes a b = 0 ∨ Lib.compareBytes a b = 1
  | [], [] => by simp [Lib.compareBytes]
  | [], _ :: _ => by simp [Lib.compareBytes]
  | _ :: _, [] => by simp [Lib.compareBytes]
  | a :: as_, b :: bs_ => by
    unfold Lib.compareBytes
    split
    · simp
    · split
      · simp
      · exact cmp_range as_ bs_
theorem cmp_swap : ∀ a b : List UInt8, Lib.compareBytes b a = - Lib.compareBytes a b
  | [], [] => by simp [Lib.compareBytes]
  | [], _ :: _ => by simp [Lib.compareBytes]
  | _ :: _, [] => by simp [Lib.compareBytes]
  | a :: as_, b :: bs_ => by
    unfold Lib.compareBytes
    have := cmp_swap as_ bs_
    by_cases h1 : a < b
    · have h2 : ¬ b < a := fun h => by rw [UInt8.lt_iff_toNat_lt] at h h1; omega
      rw [if_pos h1, if_neg h2, if_pos h1]; rfl
    · by_cases h2 : b < a
      · rw [if_pos h2, if_neg h1, if_pos h2]
      · rw [if_neg h1, if_neg h2, if_neg h2, if_neg h1, this]
theorem cmp_zero : ∀ a b : List UInt8, Lib.compareBytes a b = 0 ↔ a = b
  | [], [] => by simp [Lib.compareBytes]
  | [], _ :: _ => by simp [Lib.compareBytes]
  | _ :: _, [] => by simp [Lib.compareBytes]
  | a :: as_, b :: bs_ => by
    unfold Lib.compareBytes
    have := cmp_zero as_ bs_
    by_cases h1 : a < b
    · rw [if_pos h1]
      have : a ≠ b := fun e => by rw [e, UInt8.lt_iff_toNat_lt] at h1; omega
      simp [this]
    · by_cases h2 : b < a
      · rw [if_neg h1, if_pos h2]
        have : a ≠ b := fun e => by rw [e, UInt8.lt_iff_toNat_lt] at h2; omega
        simp [this]
      · have : a = b := by
          apply UInt8.toNat.inj
          rw [UInt8.lt_iff_toNat_lt] at h1 h2
          omega
        rw [if_neg h1, if_neg h2, cmp_zero as_ bs_, this]
        simp
theorem ahead_loop (x y : ByteArray) (hx : x.size ≤ 140737488351232) (hy : y.size ≤ 140737488351232) : ∀ n i : Nat, x.size = i + n → i ≤ y.size →
    Ev (fun k => wainwrightref06_Ahead.l0 k x y (i : Int)) (decide (Lib.compareBytes (x.data.toList.drop i) (y.data.toList.drop i) < 0))
  | 0, i, h, hi => by
    have hlx : x.data.toList.length = x.size := (Lib.size_eq x).symm
    have hly : y.data.toList.length = y.size := (Lib.size_eq y).symm
    refine Ev.step (f := fun k => wainwrightref06_Ahead.j1 k x y (i : Int) false) (fun k => by simp only [wainwrightref06_Ahead.l0]; rw [if_neg (by omega)]) ?_
    refine Ev.step (f := fun _ => some (decide ((x.size : Int) < (y.size : Int)))) (fun k => by simp only [wainwrightref06_Ahead.j1]; rw [if_neg (by decide)]) ?_
    have e : decide ((x.size : Int) < (y.size : Int)) = decide (Lib.compareBytes (x.data.toList.drop i) (y.data.toList.drop i) < 0) := by
      rw [List.drop_eq_nil_of_le (show x.data.toList.length ≤ i by omega)]
      by_cases h2 : i < y.size
      · rw [List.drop_eq_getElem_cons (show i < y.data.toList.length by omega), decide_eq_true (by omega)]; rfl
      · rw [List.drop_eq_nil_of_le (show y.data.toList.length ≤ i by omega), decide_eq_false (by omega)]; rfl
    rw [← e]
    exact Ev.now _
  | n + 1, i, h, hi => by
    have hlx : x.data.toList.length = x.size := (Lib.size_eq x).symm
    have hly : y.data.toList.length = y.size := (Lib.size_eq y).symm
    have hi1 : i < x.data.toList.length := by omega
    have hdx : x.data.toList.drop i = x.data.toList[i] :: x.data.toList.drop (i + 1) := List.drop_eq_getElem_cons hi1
    refine Ev.step (f := fun k => wainwrightref06_Ahead.j1 k x y (i : Int) (decide ((i : Int) < (y.size : Int)))) (fun k => by simp only [wainwrightref06_Ahead.l0]; rw [if_pos (by omega)]) ?_
    by_cases h2 : i < y.size
    · have hi2 : i < y.data.toList.length := by omega
      have hdy : y.data.toList.drop i = y.data.toList[i] :: y.data.toList.drop (i + 1) := List.drop_eq_getElem_cons hi2
      rw [decide_eq_true (show (i : Int) < (y.size : Int) by omega), hdx, hdy]
      refine Ev.step (f := fun k => if ((x.data.toList[i]).toNat : Int) = ((y.data.toList[i]).toNat : Int) then wainwrightref06_Ahead.l0 k x y ((i + 1 : Nat) : Int) else some (decide (((x.data.toList[i]).toNat : Int) < ((y.data.toList[i]).toNat : Int)))) (fun k => ?_) ?_
      · simp only [wainwrightref06_Ahead.j1]
        rw [if_pos trivial, if_pos (by omega), if_pos (by omega), if_pos (by omega), bt_B x i hi1, bt_B y i hi2, wrap_in _ (by omega) (by omega)]
        rfl
      · unfold Lib.compareBytes
        by_cases he : x.data.toList[i] = y.data.toList[i]
        · have hn : ¬ (x.data.toList[i] < y.data.toList[i]) := fun hh => by rw [he, UInt8.lt_iff_toNat_lt] at hh; omega
          have hn2 : ¬ (y.data.toList[i] < x.data.toList[i]) := fun hh => by rw [he, UInt8.lt_iff_toNat_lt] at hh; omega
          simp only [he, if_true, if_neg (show ¬ (y.data.toList[i] < y.data.toList[i]) from fun hh => by rw [UInt8.lt_iff_toNat_lt] at hh; omega)]
          exact ahead_loop x y hx hy n (i + 1) (by omega) (by omega)
        · have hne : ¬ (((x.data.toList[i]).toNat : Int) = ((y.data.toList[i]).toNat : Int)) := fun e => he (UInt8.toNat.inj (by omega))
          simp only [if_neg hne]
          by_cases hlt : x.data.toList[i] < y.data.toList[i]
          · have h3 := hlt
            rw [UInt8.lt_iff_toNat_lt] at h3
            simp only [if_pos hlt, decide_eq_true (show ((x.data.toList[i]).toNat : Int) < ((y.data.toList[i]).toNat : Int) by omega)]
            exact Ev.now _
          · have h3 := hlt
            rw [UInt8.lt_iff_toNat_lt] at h3
            have h4 : y.data.toList[i] < x.data.toList[i] := by rw [UInt8.lt_iff_toNat_lt]; omega
            simp only [if_neg hlt, if_pos h4, decide_eq_false (show ¬ ((x.data.toList[i]).toNat : Int) < ((y.data.toList[i]).toNat : Int) by omega)]
            exact Ev.now _
    · rw [decide_eq_false (show ¬ (i : Int) < (y.size : Int) by omega), hdx, List.drop_eq_nil_of_le (show y.data.toList.length ≤ i by omega)]
      refine Ev.step (f := fun _ => some (decide ((x.size : Int) < (y.size : Int)))) (fun k => by simp only [wainwrightref06_Ahead.j1]; rw [if_neg (by decide)]) ?_
      rw [decide_eq_false (show ¬ (x.size : Int) < (y.size : Int) by omega)]
      exact Ev.now _
theorem PathsOrder : wainwrightlaw06_PathsOrder.Pure := by
  intro a0 a1 h0 h1
  refine Ev.rounds (Ev.bind lives_ev ?_)
  simp only [if_true, paths_Compare.f, strings_Compare.f, Option.bind_some]
  refine Ev.bind (ahead_loop a0 a1 h0 h1 a0.size 0 (by omega) (by omega)) ?_
  rw [List.drop_zero, List.drop_zero]
  have hz := cmp_zero a0.data.toList a1.data.toList
  have hr := cmp_range a0.data.toList a1.data.toList
  have e1 : (Lib.compareBytes a0.data.toList a1.data.toList == 0) = (a0.toList == a1.toList) := by
    rw [Lib.toList_data, Lib.toList_data, Bool.eq_iff_iff, beq_iff_eq, beq_iff_eq, hz]
  rw [cmp_swap a0.data.toList a1.data.toList, e1]
  generalize Lib.compareBytes a0.data.toList a1.data.toList = c at *
  simp only [beq_self_eq_true, if_true]
  rw [wrap_in _ (by omega) (by omega)]
  simp only [beq_self_eq_true]
  exact Ev.now _
theorem PathsOrder_walk (a0 a1 : ByteArray) (W : World) (w0 : a0.size ≤ 140737488351232) (w1 : a1.size ≤ 140737488351232) :
    Calls Tryd.prog 7 #[.string a0, .string a1] W fun e w' => e = .returned (.bool true) ∧ Below W.heap.size W w' := by
  obtain ⟨k, hk⟩ := PathsOrder a0 a1 w0 w1
  exact wainwrightlaw06_PathsOrder.calls k a0 a1 true W hk
end Go.Proofs.YtahjalabhlakaacDoor.Pure
