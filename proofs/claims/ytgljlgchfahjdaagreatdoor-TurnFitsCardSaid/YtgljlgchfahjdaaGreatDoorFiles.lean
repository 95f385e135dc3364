/- What turn.File, and then Changed, do in the deal that begin leaves: run, at numbers that are told and at numbers that are not. No conditions. -/
import Derived.Test.YtgljlgchfahjdaaGreatDoorK24H
namespace Go.Proofs.YtgljlgchfahjdaaGreatDoor
open Go Go.Vint Go.RowKit
set_option maxRecDepth 1000000
noncomputable abbrev envF : Env := envS false 0 []
noncomputable def endQ (h : H) : Bool := endB envF 1000000 9 [.ptr 322 0] h fun v _ => isNils v
noncomputable def fileQ (r : Nat) (x1 x0 : Int) : Bool := endB envF 1000000 8 [.ptr 322 0, .int .i64 x1, .int .i64 x0] h24_48 fun v h' => Bool.casesOn (isInt r v) false (Bool.casesOn (Nat.ble (Nat.succ 322) h'.next) false (endQ h'))
noncomputable def fileC (x1 x0 : Nat) : Bool := Bool.casesOn (and (Nat.beq x1 1) (Nat.beq x0 1)) (endB envF 1000000 8 [.ptr 322 0, .int .i64 (Int.ofNat x1), .int .i64 (Int.ofNat x0)] h24_48 fun v _ => isInt 0 v) true
theorem fileA_zero (x1 : Int) : fileQ 1 x1 (Int.ofNat 0) = true := by kernel_rfl
theorem fileA_big (x1 : Int) (n : Nat) : fileQ 1 x1 (Int.ofNat (n + 3)) = true := by kernel_rfl
theorem fileA_neg (x1 : Int) (n : Nat) : fileQ 1 x1 (Int.negSucc n) = true := by kernel_rfl
theorem fileB_neg1 (n : Nat) : fileQ 5 (Int.negSucc n) (Int.ofNat 1) = true := by kernel_rfl
theorem fileB_neg2 (n : Nat) : fileQ 5 (Int.negSucc n) (Int.ofNat 2) = true := by kernel_rfl
theorem fileB_big1 (n : Nat) : fileQ 5 (Int.ofNat (n + 32)) (Int.ofNat 1) = true := by kernel_rfl
theorem fileB_big2 (n : Nat) : fileQ 5 (Int.ofNat (n + 32)) (Int.ofNat 2) = true := by kernel_rfl
theorem fileC_1_0 : ([0, 1, 2, 3, 4, 5, 6, 7] : List Nat).all (fun x => fileC x 1) = true := by kernel_rfl
theorem fileC_1_8 : ([8, 9, 10, 11, 12, 13, 14, 15] : List Nat).all (fun x => fileC x 1) = true := by kernel_rfl
theorem fileC_1_16 : ([16, 17, 18, 19, 20, 21, 22, 23] : List Nat).all (fun x => fileC x 1) = true := by kernel_rfl
theorem fileC_1_24 : ([24, 25, 26, 27, 28, 29, 30, 31] : List Nat).all (fun x => fileC x 1) = true := by kernel_rfl
theorem fileC_2_0 : ([0, 1, 2, 3, 4, 5, 6, 7] : List Nat).all (fun x => fileC x 2) = true := by kernel_rfl
theorem fileC_2_8 : ([8, 9, 10, 11, 12, 13, 14, 15] : List Nat).all (fun x => fileC x 2) = true := by kernel_rfl
theorem fileC_2_16 : ([16, 17, 18, 19, 20, 21, 22, 23] : List Nat).all (fun x => fileC x 2) = true := by kernel_rfl
theorem fileC_2_24 : ([24, 25, 26, 27, 28, 29, 30, 31] : List Nat).all (fun x => fileC x 2) = true := by kernel_rfl
theorem fileC_1 (x : Nat) (h : x < 32) : fileC x 1 = true := by
  by_cases h0 : x < 8
  · exact List.all_eq_true.1 fileC_1_0 x (by simp; omega)
  · by_cases h1 : x < 16
    · exact List.all_eq_true.1 fileC_1_8 x (by simp; omega)
    · by_cases h2 : x < 24
      · exact List.all_eq_true.1 fileC_1_16 x (by simp; omega)
      · exact List.all_eq_true.1 fileC_1_24 x (by simp; omega)
theorem fileC_2 (x : Nat) (h : x < 32) : fileC x 2 = true := by
  by_cases h0 : x < 8
  · exact List.all_eq_true.1 fileC_2_0 x (by simp; omega)
  · by_cases h1 : x < 16
    · exact List.all_eq_true.1 fileC_2_8 x (by simp; omega)
    · by_cases h2 : x < 24
      · exact List.all_eq_true.1 fileC_2_16 x (by simp; omega)
      · exact List.all_eq_true.1 fileC_2_24 x (by simp; omega)
end Go.Proofs.YtgljlgchfahjdaaGreatDoor
