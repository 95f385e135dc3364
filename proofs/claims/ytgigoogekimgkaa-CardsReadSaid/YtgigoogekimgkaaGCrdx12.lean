/- printed for this claim by gprint.py, a program of this session, that drives the kit's printer. -/
import Derived.Test.YtgigoogekimgkaaGCrdx0
import Derived.Test.YtgigoogekimgkaaZ
import Derived.Test.YtgigoogekimgkaaGCrdx1
import Derived.Test.YtgigoogekimgkaaGCrdx2
namespace Go.Proofs.Ytgigoogekimgkaa.GCrd
open Go.RowKit Go.Proofs.YtgigoogekimgkaaW.PrintWords Go.Proofs.YtgigoogekimgkaaW.PrintLast Go.Proofs.YtgigoogekimgkaaW.PrintMore
attribute [local go_sem] max2_int min2_int max_two min_two max_three min_three max_four min_four   -- for this text's walks alone
set_option linter.unusedVariables false
set_option linter.unusedSimpArgs false

attribute [local go_sem high] eqA48
/-! ### r1_Same: function 38 -/
def r1_Same.l0 : Nat → List Int → List Int → Int → Option (Bool)
 | 0, _, _, _ => none
 | k + 1, x0, x1, x5 => if x5 < (x0.length : Int) then (if 0 ≤ x5 then (if x5 < (x1.length : Int) then (if (rd x0 x5) = (rd x1 x5) then (r1_Same.l0 k x0 x1 (wrap64 (x5 + 1))) else (some false)) else (none)) else (none)) else (some true)
def r1_Same.f (k : Nat) (l0 : List Int) (l1 : List Int) : Option (Bool) := if (l0.length : Int) = (l1.length : Int) then (r1_Same.l0 k l0 l1 0) else (some false)
theorem r1_Same.mono_l : ∀ k, (∀ y0 y1 y2, LeO (r1_Same.l0 k y0 y1 y2) (r1_Same.l0 (k + 1) y0 y1 y2))
 | 0 => fun _ _ _ r h => by simp [r1_Same.l0] at h
 | k + 1 => by
   have ih0 := r1_Same.mono_l k
   · intro y0 y1 y2
     unfold r1_Same.l0
     repeat' first
     | (with_reducible exact ih0 _ _ _)
     | (with_reducible exact LeO.refl _)
     | (with_reducible exact LeO.none _)
     | (with_reducible refine LeO.ite ?_ ?_)
     | (with_reducible refine LeO.bind ?_ (fun _ => ?_))
     | exact ih0 _ _ _
     | exact LeO.none _
     | refine LeO.ite ?_ ?_
     | refine LeO.bind ?_ (fun _ => ?_)
theorem r1_Same.mono : ∀ a0 a1 k, LeO (r1_Same.f k a0 a1) (r1_Same.f (k + 1) a0 a1) := by
 intro a0 a1 k
 have ih0 := r1_Same.mono_l k
 unfold r1_Same.f
 repeat' first
  | (with_reducible exact ih0 _ _ _)
  | (with_reducible exact LeO.refl _)
  | (with_reducible exact LeO.none _)
  | (with_reducible refine LeO.ite ?_ ?_)
  | (with_reducible refine LeO.bind ?_ (fun _ => ?_))
  | exact ih0 _ _ _
  | exact LeO.none _
  | refine LeO.ite ?_ ?_
  | refine LeO.bind ?_ (fun _ => ?_)
set_option maxHeartbeats 8000000 in
set_option maxRecDepth 100000 in
theorem r1_Same.calls (k : Nat) (A0 : Option Addr) (c0 : Nat) (l0 : List Int) (A1 : Option Addr) (c1 : Nat) (l1 : List Int) (r : Bool) (w : World) (hr0 : Kd.C (Kd.int .i64) w A0 l0.length l0) (hc0 : l0.length ≤ c0) (hr1 : Kd.C (Kd.int .i64) w A1 l1.length l1) (hc1 : l1.length ≤ c1) (h : r1_Same.f k l0 l1 = some r) :
 Calls Try.prog 38 #[.slice A0 l0.length c0, .slice A1 l1.length c1] w fun e w' => e = .returned (.bool r) ∧ Drawn0 w w' := by
 have HR0 := Aside0.mk hr0
 have HC0 := Aside0.mk hc0
 clear hr0 hc0
 have HR1 := Aside0.mk hr1
 have HC1 := Aside0.mk hc1
 clear hr1 hc1
 have H : (if (l0.length : Int) = (l1.length : Int) then (r1_Same.l0 k l0 l1 0) else (some false)) = some r := h
 clear h
 by_cases c3 : (l0.length : Int) = (l1.length : Int)
 · rw [if_pos c3] at H
   have c3b0 : ((l0.length : Int) == (l1.length : Int)) = true := beq_iff_eq.mpr c3
   have c3b1 : ((l0.length : Int) != (l1.length : Int)) = false := bne_eq_false_iff_eq.mpr c3
   have c3b2 : (l0.length == l1.length) = true := by first | simpa using c3 | (simp at c3 ⊢; omega)
   clear c3
   have H' := Aside0.mk H
   clear H
   go_enter Try.func38, Try.ntmps38
   go_wp2
   repeat (go_quiet (fail); try go_wp2)
   go_loopg [5] k (fun kq v5 w' => ∃ (x5_1 : Int), v5 = .int .i64 x5_1 ∧ Aside0 (r1_Same.l0 kq l0 l1 x5_1 = some r) ∧ Aside0 (kq ≤ k) ∧ Drawn0 w w')
   case atStart => exact ⟨(0), (zs), H', ⟨Nat.le_refl _⟩, by repeat (first | exact Drawn0.refl _ | apply Drawn0.step)⟩
   case round =>
    clear H'
    (try clear c1); (try clear p2)
    (try clear c3); (try clear c3b0)
    (try clear c3b1); (try clear c3b2)
    obtain ⟨x5_1, rfl, HA, HK1, ⟨m1, rfl⟩⟩ := hrel
    cases gk with
    | zero => exact absurd HA.out (by simp [r1_Same.l0])
    | succ k1 =>
      have H := HA.out
      clear HA
      simp only [r1_Same.l0] at H
      by_cases c4 : x5_1 < (l0.length : Int)
      · rw [if_pos c4] at H
        have c4b0 : decide (x5_1 < (l0.length : Int)) = true := decide_eq_true c4
        clear c4
        by_cases c5 : 0 ≤ x5_1
        · rw [if_pos c5] at H
          have c5b0 : decide (0 ≤ x5_1) = true := decide_eq_true c5
          clear c5
          by_cases c6 : x5_1 < (l1.length : Int)
          · rw [if_pos c6] at H
            have c6b0 : decide (x5_1 < (l1.length : Int)) = true := decide_eq_true c6
            clear c6
            by_cases c7 : (rd l0 x5_1) = (rd l1 x5_1)
            · rw [if_pos c7] at H
              have c7b0 : ((rd l0 x5_1) == (rd l1 x5_1)) = true := beq_iff_eq.mpr c7
              have c7b1 : ((rd l0 x5_1) != (rd l1 x5_1)) = false := bne_eq_false_iff_eq.mpr c7
              clear c7
              have H' := Aside0.mk H
              clear H
              have p324 : 0 ≤ (x5_1 : Int) := zd
              have q324 : x5_1 < (l0.length : Int) := zd
              obtain ⟨ad324, e324, hx324_0⟩ := Kd.at_int HR0.out x5_1 p324 q324
              cases e324
              replace p324 := eq_true p324
              replace q324 := eq_true q324
              have p325 : 0 ≤ (x5_1 : Int) := zd
              have q325 : x5_1 < (l1.length : Int) := zd
              obtain ⟨ad325, e325, hx325_0⟩ := Kd.at_int HR1.out x5_1 p325 q325
              cases e325
              replace p325 := eq_true p325
              replace q325 := eq_true q325
              go_wp2
              repeat (go_quiet (fail); try go_wp2)
              go_roundg k1
              case measure => have := HK1.out; omega
              case rel => exact ⟨(wrap64 (x5_1 + 1)), (zs), H', ⟨by have := HK1.out; omega⟩, by repeat (first | exact Drawn0.refl _ | apply Drawn0.step)⟩
            · rw [if_neg c7] at H
              have c7b0 : ((rd l0 x5_1) == (rd l1 x5_1)) = false := beq_eq_false_iff_ne.mpr c7
              have c7b1 : ((rd l0 x5_1) != (rd l1 x5_1)) = true := bne_iff_ne.mpr c7
              obtain rfl := Option.some.inj H
              have p324 : 0 ≤ (x5_1 : Int) := zd
              have q324 : x5_1 < (l0.length : Int) := zd
              obtain ⟨ad324, e324, hx324_0⟩ := Kd.at_int HR0.out x5_1 p324 q324
              cases e324
              replace p324 := eq_true p324
              replace q324 := eq_true q324
              have p325 : 0 ≤ (x5_1 : Int) := zd
              have q325 : x5_1 < (l1.length : Int) := zd
              obtain ⟨ad325, e325, hx325_0⟩ := Kd.at_int HR1.out x5_1 p325 q325
              cases e325
              replace p325 := eq_true p325
              replace q325 := eq_true q325
              go_wp2
              repeat (go_quiet (fail); try go_wp2)
              go_ret
              exact ⟨by first | rfl | (simp; done) | (simp [*]; done), by repeat (first | exact Drawn0.refl _ | apply Drawn0.step)⟩
          · rw [if_neg c6] at H
            exact absurd H (by simp)
        · rw [if_neg c5] at H
          exact absurd H (by simp)
      · rw [if_neg c4] at H
        have c4b0 : decide (x5_1 < (l0.length : Int)) = false := decide_eq_false c4
        clear c4
        obtain rfl := Option.some.inj H
        go_wp2
        repeat (go_quiet (fail); try go_wp2)
        go_ret
        exact ⟨by first | rfl | (simp; done) | (simp [*]; done), by repeat (first | exact Drawn0.refl _ | apply Drawn0.step)⟩
 · rw [if_neg c3] at H
   have c3b0 : ((l0.length : Int) == (l1.length : Int)) = false := beq_eq_false_iff_ne.mpr c3
   have c3b1 : ((l0.length : Int) != (l1.length : Int)) = true := bne_iff_ne.mpr c3
   have c3b2 : (l0.length == l1.length) = false := by first | simpa using c3 | (simp at c3 ⊢; omega)
   obtain rfl := Option.some.inj H
   go_enter Try.func38, Try.ntmps38
   go_wp2
   repeat (go_quiet (fail); try go_wp2)
   go_ret
   exact ⟨by first | rfl | (simp; done) | (simp [*]; done), by repeat (first | exact Drawn0.refl _ | apply Drawn0.step)⟩

/-! ### r4_Same: function 39 -/
def r4_Same.l0 : Nat → List (S48) → List (S48) → Int → Option (Bool)
 | 0, _, _, _ => none
 | k + 1, x0, x1, x5 => if x5 < (x0.length : Int) then (if 0 ≤ x5 then (if x5 < (x1.length : Int) then (if (!(((rd_T48 x0 x5).f0) == ((rd_T48 x1 x5).f0)) || (!(((rd_T48 x0 x5).f1) == ((rd_T48 x1 x5).f1)) || (!(((rd_T48 x0 x5).f2) == ((rd_T48 x1 x5).f2))))) = true then (some false) else (r4_Same.l0 k x0 x1 (wrap64 (x5 + 1)))) else (none)) else (none)) else (some true)
def r4_Same.f (k : Nat) (l0 : List (S48)) (l1 : List (S48)) : Option (Bool) := if (l0.length : Int) = (l1.length : Int) then (r4_Same.l0 k l0 l1 0) else (some false)
theorem r4_Same.mono_l : ∀ k, (∀ y0 y1 y2, LeO (r4_Same.l0 k y0 y1 y2) (r4_Same.l0 (k + 1) y0 y1 y2))
 | 0 => fun _ _ _ r h => by simp [r4_Same.l0] at h
 | k + 1 => by
   have ih0 := r4_Same.mono_l k
   · intro y0 y1 y2
     unfold r4_Same.l0
     repeat' first
     | (with_reducible exact ih0 _ _ _)
     | (with_reducible exact LeO.refl _)
     | (with_reducible exact LeO.none _)
     | (with_reducible refine LeO.ite ?_ ?_)
     | (with_reducible refine LeO.bind ?_ (fun _ => ?_))
     | exact ih0 _ _ _
     | exact LeO.none _
     | refine LeO.ite ?_ ?_
     | refine LeO.bind ?_ (fun _ => ?_)
theorem r4_Same.mono : ∀ a0 a1 k, LeO (r4_Same.f k a0 a1) (r4_Same.f (k + 1) a0 a1) := by
 intro a0 a1 k
 have ih0 := r4_Same.mono_l k
 unfold r4_Same.f
 repeat' first
  | (with_reducible exact ih0 _ _ _)
  | (with_reducible exact LeO.refl _)
  | (with_reducible exact LeO.none _)
  | (with_reducible refine LeO.ite ?_ ?_)
  | (with_reducible refine LeO.bind ?_ (fun _ => ?_))
  | exact ih0 _ _ _
  | exact LeO.none _
  | refine LeO.ite ?_ ?_
  | refine LeO.bind ?_ (fun _ => ?_)
set_option maxHeartbeats 8000000 in
set_option maxRecDepth 100000 in
theorem r4_Same.calls (k : Nat) (A0 : Option Addr) (c0 : Nat) (l0 : List (S48)) (A1 : Option Addr) (c1 : Nat) (l1 : List (S48)) (r : Bool) (w : World) (hr0 : Kd.C k48 w A0 l0.length l0) (hc0 : l0.length ≤ c0) (hr1 : Kd.C k48 w A1 l1.length l1) (hc1 : l1.length ≤ c1) (h : r4_Same.f k l0 l1 = some r) :
 Calls Try.prog 39 #[.slice A0 l0.length c0, .slice A1 l1.length c1] w fun e w' => e = .returned (.bool r) ∧ Drawn0 w w' := by
 have hu48 := Try.underlying48
 have HR0 := Aside0.mk hr0
 have HC0 := Aside0.mk hc0
 clear hr0 hc0
 have HR1 := Aside0.mk hr1
 have HC1 := Aside0.mk hc1
 clear hr1 hc1
 have H : (if (l0.length : Int) = (l1.length : Int) then (r4_Same.l0 k l0 l1 0) else (some false)) = some r := h
 clear h
 by_cases c3 : (l0.length : Int) = (l1.length : Int)
 · rw [if_pos c3] at H
   have c3b0 : ((l0.length : Int) == (l1.length : Int)) = true := beq_iff_eq.mpr c3
   have c3b1 : ((l0.length : Int) != (l1.length : Int)) = false := bne_eq_false_iff_eq.mpr c3
   have c3b2 : (l0.length == l1.length) = true := by first | simpa using c3 | (simp at c3 ⊢; omega)
   clear c3
   have H' := Aside0.mk H
   clear H
   go_enter Try.func39, Try.ntmps39
   go_wp2
   repeat (go_quiet (fail); try go_wp2)
   go_loopg [5] k (fun kq v5 w' => ∃ (x5_1 : Int), v5 = .int .i64 x5_1 ∧ Aside0 (r4_Same.l0 kq l0 l1 x5_1 = some r) ∧ Aside0 (kq ≤ k) ∧ Drawn0 w w')
   case atStart => exact ⟨(0), (zs), H', ⟨Nat.le_refl _⟩, by repeat (first | exact Drawn0.refl _ | apply Drawn0.step)⟩
   case round =>
    clear H'
    (try clear c1); (try clear p2)
    (try clear c3); (try clear c3b0)
    (try clear c3b1); (try clear c3b2)
    obtain ⟨x5_1, rfl, HA, HK1, ⟨m1, rfl⟩⟩ := hrel
    cases gk with
    | zero => exact absurd HA.out (by simp [r4_Same.l0])
    | succ k1 =>
      have H := HA.out
      clear HA
      simp only [r4_Same.l0] at H
      by_cases c4 : x5_1 < (l0.length : Int)
      · rw [if_pos c4] at H
        have c4b0 : decide (x5_1 < (l0.length : Int)) = true := decide_eq_true c4
        clear c4
        by_cases c5 : 0 ≤ x5_1
        · rw [if_pos c5] at H
          have c5b0 : decide (0 ≤ x5_1) = true := decide_eq_true c5
          clear c5
          by_cases c6 : x5_1 < (l1.length : Int)
          · rw [if_pos c6] at H
            have c6b0 : decide (x5_1 < (l1.length : Int)) = true := decide_eq_true c6
            clear c6
            by_cases c7 : (!(((rd_T48 l0 x5_1).f0) == ((rd_T48 l1 x5_1).f0)) || (!(((rd_T48 l0 x5_1).f1) == ((rd_T48 l1 x5_1).f1)) || (!(((rd_T48 l0 x5_1).f2) == ((rd_T48 l1 x5_1).f2))))) = true
            · rw [if_pos c7] at H
              have c7b0 : (!(((rd_T48 l0 x5_1).f0) == ((rd_T48 l1 x5_1).f0)) || (!(((rd_T48 l0 x5_1).f1) == ((rd_T48 l1 x5_1).f1)) || (!(((rd_T48 l0 x5_1).f2) == ((rd_T48 l1 x5_1).f2))))) = true := c7
              clear c7
              obtain rfl := Option.some.inj H
              have p326 : 0 ≤ (x5_1 : Int) := zd
              have q326 : x5_1 < (l0.length : Int) := zd
              obtain ⟨ad326, e326, hx326_0, hx326_1, hx326_2⟩ := at_T48 HR0.out x5_1 p326 q326
              cases e326
              replace p326 := eq_true p326
              replace q326 := eq_true q326
              have p327 : 0 ≤ (x5_1 : Int) := zd
              have q327 : x5_1 < (l1.length : Int) := zd
              obtain ⟨ad327, e327, hx327_0, hx327_1, hx327_2⟩ := at_T48 HR1.out x5_1 p327 q327
              cases e327
              replace p327 := eq_true p327
              replace q327 := eq_true q327
              go_wp2
              repeat (go_quiet (fail); try go_wp2)
              go_ret
              exact ⟨by first | rfl | (simp; done) | (simp [*]; done), by repeat (first | exact Drawn0.refl _ | apply Drawn0.step)⟩
            · rw [if_neg c7] at H
              have c7b0 : (!(((rd_T48 l0 x5_1).f0) == ((rd_T48 l1 x5_1).f0)) || (!(((rd_T48 l0 x5_1).f1) == ((rd_T48 l1 x5_1).f1)) || (!(((rd_T48 l0 x5_1).f2) == ((rd_T48 l1 x5_1).f2))))) = false := by simpa using c7
              clear c7
              have H' := Aside0.mk H
              clear H
              have p326 : 0 ≤ (x5_1 : Int) := zd
              have q326 : x5_1 < (l0.length : Int) := zd
              obtain ⟨ad326, e326, hx326_0, hx326_1, hx326_2⟩ := at_T48 HR0.out x5_1 p326 q326
              cases e326
              replace p326 := eq_true p326
              replace q326 := eq_true q326
              have p327 : 0 ≤ (x5_1 : Int) := zd
              have q327 : x5_1 < (l1.length : Int) := zd
              obtain ⟨ad327, e327, hx327_0, hx327_1, hx327_2⟩ := at_T48 HR1.out x5_1 p327 q327
              cases e327
              replace p327 := eq_true p327
              replace q327 := eq_true q327
              go_wp2
              repeat (go_quiet (fail); try go_wp2)
              go_roundg k1
              case measure => have := HK1.out; omega
              case rel => exact ⟨(wrap64 (x5_1 + 1)), (zs), H', ⟨by have := HK1.out; omega⟩, by repeat (first | exact Drawn0.refl _ | apply Drawn0.step)⟩
          · rw [if_neg c6] at H
            exact absurd H (by simp)
        · rw [if_neg c5] at H
          exact absurd H (by simp)
      · rw [if_neg c4] at H
        have c4b0 : decide (x5_1 < (l0.length : Int)) = false := decide_eq_false c4
        clear c4
        obtain rfl := Option.some.inj H
        go_wp2
        repeat (go_quiet (fail); try go_wp2)
        go_ret
        exact ⟨by first | rfl | (simp; done) | (simp [*]; done), by repeat (first | exact Drawn0.refl _ | apply Drawn0.step)⟩
 · rw [if_neg c3] at H
   have c3b0 : ((l0.length : Int) == (l1.length : Int)) = false := beq_eq_false_iff_ne.mpr c3
   have c3b1 : ((l0.length : Int) != (l1.length : Int)) = true := bne_iff_ne.mpr c3
   have c3b2 : (l0.length == l1.length) = false := by first | simpa using c3 | (simp at c3 ⊢; omega)
   obtain rfl := Option.some.inj H
   go_enter Try.func39, Try.ntmps39
   go_wp2
   repeat (go_quiet (fail); try go_wp2)
   go_ret
   exact ⟨by first | rfl | (simp; done) | (simp [*]; done), by repeat (first | exact Drawn0.refl _ | apply Drawn0.step)⟩

/-! ### r9_Same: function 15 -/
def r9_Same.f (k : Nat) (a0_0 : Int) (a0_1 : Int) (a0_2 : Int) (a0_3 : Int) (l0_4 : List Int) (a0_5 : Int) (a0_6 : Int) (l0_7 : List (S48)) (a0_8 : Int) (a1_0 : Int) (a1_1 : Int) (a1_2 : Int) (a1_3 : Int) (l1_4 : List Int) (a1_5 : Int) (a1_6 : Int) (l1_7 : List (S48)) (a1_8 : Int) : Option (Bool) := if a0_0 = a1_0 then (if a0_1 = a1_1 then (if a0_2 = a1_2 then (if a0_3 = a1_3 then ((r1_Same.f k l0_4 l1_4).bind fun t330 => (if t330 = true then (if a0_5 = a1_5 then (if a0_6 = a1_6 then ((r4_Same.f k l0_7 l1_7).bind fun t331 => (if t331 = true then (some (a0_8 == a1_8)) else (some false))) else (some false)) else (some false)) else (some false))) else (some false)) else (some false)) else (some false)) else (some false)
theorem r9_Same.mono : ∀ a0 a1 a2 a3 a4 a5 a6 a7 a8 a9 a10 a11 a12 a13 a14 a15 a16 a17 k, LeO (r9_Same.f k a0 a1 a2 a3 a4 a5 a6 a7 a8 a9 a10 a11 a12 a13 a14 a15 a16 a17) (r9_Same.f (k + 1) a0 a1 a2 a3 a4 a5 a6 a7 a8 a9 a10 a11 a12 a13 a14 a15 a16 a17) := by
 intro a0 a1 a2 a3 a4 a5 a6 a7 a8 a9 a10 a11 a12 a13 a14 a15 a16 a17 k
 unfold r9_Same.f
 repeat' first
  | (with_reducible exact r1_Same.mono _ _ _)
  | (with_reducible exact r4_Same.mono _ _ _)
  | (with_reducible exact LeO.refl _)
  | (with_reducible exact LeO.none _)
  | (with_reducible refine LeO.ite ?_ ?_)
  | (with_reducible refine LeO.bind ?_ (fun _ => ?_))
  | exact r1_Same.mono _ _ _
  | exact r4_Same.mono _ _ _
  | exact LeO.none _
  | refine LeO.ite ?_ ?_
  | refine LeO.bind ?_ (fun _ => ?_)
set_option maxHeartbeats 8000000 in
set_option maxRecDepth 100000 in
theorem r9_Same.calls (k : Nat) (a0_0 : Int) (a0_1 : Int) (a0_2 : Int) (a0_3 : Int) (A0_4 : Option Addr) (c0_4 : Nat) (l0_4 : List Int) (a0_5 : Int) (a0_6 : Int) (A0_7 : Option Addr) (c0_7 : Nat) (l0_7 : List (S48)) (a0_8 : Int) (a1_0 : Int) (a1_1 : Int) (a1_2 : Int) (a1_3 : Int) (A1_4 : Option Addr) (c1_4 : Nat) (l1_4 : List Int) (a1_5 : Int) (a1_6 : Int) (A1_7 : Option Addr) (c1_7 : Nat) (l1_7 : List (S48)) (a1_8 : Int) (r : Bool) (w : World) (hr0_4 : Kd.C (Kd.int .i64) w A0_4 l0_4.length l0_4) (hc0_4 : l0_4.length ≤ c0_4) (hr0_7 : Kd.C k48 w A0_7 l0_7.length l0_7) (hc0_7 : l0_7.length ≤ c0_7) (hr1_4 : Kd.C (Kd.int .i64) w A1_4 l1_4.length l1_4) (hc1_4 : l1_4.length ≤ c1_4) (hr1_7 : Kd.C k48 w A1_7 l1_7.length l1_7) (hc1_7 : l1_7.length ≤ c1_7) (h : r9_Same.f k a0_0 a0_1 a0_2 a0_3 l0_4 a0_5 a0_6 l0_7 a0_8 a1_0 a1_1 a1_2 a1_3 l1_4 a1_5 a1_6 l1_7 a1_8 = some r) :
 Calls Try.prog 15 #[.agg #[.int .i64 a0_0, .int .i64 a0_1, .int .i64 a0_2, .int .i64 a0_3, .slice A0_4 l0_4.length c0_4, .int .i64 a0_5, .int .i64 a0_6, .slice A0_7 l0_7.length c0_7, .int .i64 a0_8], .agg #[.int .i64 a1_0, .int .i64 a1_1, .int .i64 a1_2, .int .i64 a1_3, .slice A1_4 l1_4.length c1_4, .int .i64 a1_5, .int .i64 a1_6, .slice A1_7 l1_7.length c1_7, .int .i64 a1_8]] w fun e w' => e = .returned (.bool r) ∧ Below w.heap.size w w' := by
 have hu25 := Try.underlying25
 have HR0_4 := Aside0.mk hr0_4
 have HC0_4 := Aside0.mk hc0_4
 clear hr0_4 hc0_4
 have HR0_7 := Aside0.mk hr0_7
 have HC0_7 := Aside0.mk hc0_7
 clear hr0_7 hc0_7
 have HR1_4 := Aside0.mk hr1_4
 have HC1_4 := Aside0.mk hc1_4
 clear hr1_4 hc1_4
 have HR1_7 := Aside0.mk hr1_7
 have HC1_7 := Aside0.mk hc1_7
 clear hr1_7 hc1_7
 have HB := Aside0.mk (Below.refl w.heap.size w)
 have H : (if a0_0 = a1_0 then (if a0_1 = a1_1 then (if a0_2 = a1_2 then (if a0_3 = a1_3 then ((r1_Same.f k l0_4 l1_4).bind fun t330 => (if t330 = true then (if a0_5 = a1_5 then (if a0_6 = a1_6 then ((r4_Same.f k l0_7 l1_7).bind fun t331 => (if t331 = true then (some (a0_8 == a1_8)) else (some false))) else (some false)) else (some false)) else (some false))) else (some false)) else (some false)) else (some false)) else (some false)) = some r := h
 clear h
 by_cases c3 : a0_0 = a1_0
 all_goals (first
  | (skip
     rw [if_pos c3] at H
     have c3b0 : (a0_0 == a1_0) = true := beq_iff_eq.mpr c3
     have c3b1 : (a0_0 != a1_0) = false := bne_eq_false_iff_eq.mpr c3
     clear c3
     by_cases c4 : a0_1 = a1_1
     all_goals (first
      | (skip
         rw [if_pos c4] at H
         have c4b0 : (a0_1 == a1_1) = true := beq_iff_eq.mpr c4
         have c4b1 : (a0_1 != a1_1) = false := bne_eq_false_iff_eq.mpr c4
         clear c4
         by_cases c5 : a0_2 = a1_2
         all_goals (first
          | (skip
             rw [if_pos c5] at H
             have c5b0 : (a0_2 == a1_2) = true := beq_iff_eq.mpr c5
             have c5b1 : (a0_2 != a1_2) = false := bne_eq_false_iff_eq.mpr c5
             clear c5
             by_cases c6 : a0_3 = a1_3
             all_goals (first
              | (skip
                 rw [if_pos c6] at H
                 have c6b0 : (a0_3 == a1_3) = true := beq_iff_eq.mpr c6
                 have c6b1 : (a0_3 != a1_3) = false := bne_eq_false_iff_eq.mpr c6
                 clear c6
                 replace H := Option.bind_eq_some_iff.mp H
                 obtain ⟨tq0, Aq0z, H⟩ := H
                 have Aq0 := Aside0.mk Aq0z
                 clear Aq0z
                 by_cases c8 : tq0 = true
                 all_goals (first
                  | (skip
                     subst c8
                     rw [if_pos rfl] at H
                     by_cases c9 : a0_5 = a1_5
                     all_goals (first
                      | (skip
                         rw [if_pos c9] at H
                         have c9b0 : (a0_5 == a1_5) = true := beq_iff_eq.mpr c9
                         have c9b1 : (a0_5 != a1_5) = false := bne_eq_false_iff_eq.mpr c9
                         clear c9
                         by_cases c10 : a0_6 = a1_6
                         all_goals (first
                          | (skip
                             rw [if_pos c10] at H
                             have c10b0 : (a0_6 == a1_6) = true := beq_iff_eq.mpr c10
                             have c10b1 : (a0_6 != a1_6) = false := bne_eq_false_iff_eq.mpr c10
                             clear c10
                             replace H := Option.bind_eq_some_iff.mp H
                             obtain ⟨tq1, Aq1z, H⟩ := H
                             have Aq1 := Aside0.mk Aq1z
                             clear Aq1z
                             by_cases c12 : tq1 = true
                             all_goals (first
                              | (skip
                                 subst c12
                                 rw [if_pos rfl] at H
                                 obtain rfl := Option.some.inj H
                                 have C0_ : True := trivial
                                 have S0_ : True := trivial)
                              | (skip
                                 replace c12 := Bool.eq_false_iff.mpr c12
                                 subst c12
                                 rw [if_neg (show ¬ (false = true) by decide)] at H
                                 obtain rfl := Option.some.inj H
                                 have C0_ : True := trivial
                                 have S0_ : True := trivial)))
                          | (skip
                             rw [if_neg c10] at H
                             have c10b0 : (a0_6 == a1_6) = false := beq_eq_false_iff_ne.mpr c10
                             have c10b1 : (a0_6 != a1_6) = true := bne_iff_ne.mpr c10
                             obtain rfl := Option.some.inj H
                             have C0_ : True := trivial
                             have S0_ : True := trivial)))
                      | (skip
                         rw [if_neg c9] at H
                         have c9b0 : (a0_5 == a1_5) = false := beq_eq_false_iff_ne.mpr c9
                         have c9b1 : (a0_5 != a1_5) = true := bne_iff_ne.mpr c9
                         obtain rfl := Option.some.inj H
                         have C0_ : True := trivial
                         have S0_ : True := trivial)))
                  | (skip
                     replace c8 := Bool.eq_false_iff.mpr c8
                     subst c8
                     rw [if_neg (show ¬ (false = true) by decide)] at H
                     obtain rfl := Option.some.inj H
                     have C0_ : True := trivial
                     have S0_ : True := trivial)))
              | (skip
                 rw [if_neg c6] at H
                 have c6b0 : (a0_3 == a1_3) = false := beq_eq_false_iff_ne.mpr c6
                 have c6b1 : (a0_3 != a1_3) = true := bne_iff_ne.mpr c6
                 obtain rfl := Option.some.inj H
                 have C0_ : True := trivial
                 have S0_ : True := trivial)))
          | (skip
             rw [if_neg c5] at H
             have c5b0 : (a0_2 == a1_2) = false := beq_eq_false_iff_ne.mpr c5
             have c5b1 : (a0_2 != a1_2) = true := bne_iff_ne.mpr c5
             obtain rfl := Option.some.inj H
             have C0_ : True := trivial
             have S0_ : True := trivial)))
      | (skip
         rw [if_neg c4] at H
         have c4b0 : (a0_1 == a1_1) = false := beq_eq_false_iff_ne.mpr c4
         have c4b1 : (a0_1 != a1_1) = true := bne_iff_ne.mpr c4
         obtain rfl := Option.some.inj H
         have C0_ : True := trivial
         have S0_ : True := trivial)))
  | (skip
     rw [if_neg c3] at H
     have c3b0 : (a0_0 == a1_0) = false := beq_eq_false_iff_ne.mpr c3
     have c3b1 : (a0_0 != a1_0) = true := bne_iff_ne.mpr c3
     obtain rfl := Option.some.inj H
     have C0_ : True := trivial
     have S0_ : True := trivial))
 all_goals (
  first
  | (have _ := C0_
     go_enter Try.func15, Try.ntmps15
     go_wp2_with (first | ((with_reducible refine gate_dst (N := 2) rfl ?_); refine zbx (N := 2) (cs := #[.int .i64 a0_0, .int .i64 a0_1, .int .i64 a0_2, .int .i64 a0_3, .slice A0_4 l0_4.length c0_4, .int .i64 a0_5, .int .i64 a0_6, .slice A0_7 l0_7.length c0_7, .int .i64 a0_8]) (t := 25) ?_; intro gb328 hg wq2 hbox hb; have BK328 := Aside0.mk (hbox); have GW328 := Aside0.mk ((by rw [hg]; exact (below_size (zh0 HB.out)) : w.heap.size ≤ gb328)); have GE328 := GW328; replace HB := Aside0.mk (below_step (zh0 HB.out) hb); clear hb hbox hg) | ((with_reducible refine gate_dst (N := 3) rfl ?_); refine zbx (N := 3) (cs := #[.int .i64 a1_0, .int .i64 a1_1, .int .i64 a1_2, .int .i64 a1_3, .slice A1_4 l1_4.length c1_4, .int .i64 a1_5, .int .i64 a1_6, .slice A1_7 l1_7.length c1_7, .int .i64 a1_8]) (t := 25) ?_; intro gb329 hg wq3 hbox hb; have BK329 := Aside0.mk (hbox); have GW329 := Aside0.mk ((by rw [hg]; exact (below_size (zh1 HB.out GE328.out)) : w.heap.size ≤ gb329)); have GE329 := GW329; replace HB := Aside0.mk (below_step (zh1 HB.out GE328.out) hb); have NB328_329 := Aside0.mk ((by rw [hg]; exact Nat.ne_of_lt (blk_lt (g := gb328) (o := .cells #[.int .i64 a0_0, .int .i64 a0_1, .int .i64 a0_2, .int .i64 a0_3, .slice A0_4 l0_4.length c0_4, .int .i64 a0_5, .int .i64 a0_6, .slice A0_7 l0_7.length c0_7, .int .i64 a0_8] 25 (0, 0)) (zb BK328.out)) : gb328 ≠ gb329)); have NB329_328 := Aside0.mk ((by rw [hg]; exact Nat.ne_of_gt (blk_lt (g := gb328) (o := .cells #[.int .i64 a0_0, .int .i64 a0_1, .int .i64 a0_2, .int .i64 a0_3, .slice A0_4 l0_4.length c0_4, .int .i64 a0_5, .int .i64 a0_6, .slice A0_7 l0_7.length c0_7, .int .i64 a0_8] 25 (0, 0)) (zb BK328.out)) : gb329 ≠ gb328)); replace BK328 := Aside0.mk (zB BK328.out hb); clear hb hbox hg; have hnbq3 := NB328_329.out; have hncq3 := NB329_328.out; obtain ⟨hczq3_0, hczq3_1, hczq3_2, hczq3_3, hczq3_4, hczq3_5, hczq3_6, hczq3_7, hczq3_8⟩ := cells9 BK328.out; obtain ⟨hfzq3_0, hfzq3_1, hfzq3_2, hfzq3_3, hfzq3_4, hfzq3_5, hfzq3_6, hfzq3_7, hfzq3_8⟩ := frozen9 BK328.out; have hczq3x22_0 : wq3.cell? ⟨gb329, 0, none⟩ = some (.int .i64 a1_0) := (blk_cell BK329.out 0).trans rfl; have hczq3x23_1 : wq3.cell? ⟨gb329, 1, none⟩ = some (.int .i64 a1_1) := (blk_cell BK329.out 1).trans rfl; have hczq3x24_2 : wq3.cell? ⟨gb329, 2, none⟩ = some (.int .i64 a1_2) := (blk_cell BK329.out 2).trans rfl; have hczq3x25_3 : wq3.cell? ⟨gb329, 3, none⟩ = some (.int .i64 a1_3) := (blk_cell BK329.out 3).trans rfl; have hczq3x26_4 : wq3.cell? ⟨gb329, 4, none⟩ = some (.slice A1_4 l1_4.length c1_4) := (blk_cell BK329.out 4).trans rfl; have hczq3x27_5 : wq3.cell? ⟨gb329, 5, none⟩ = some (.int .i64 a1_5) := (blk_cell BK329.out 5).trans rfl; have hczq3x28_6 : wq3.cell? ⟨gb329, 6, none⟩ = some (.int .i64 a1_6) := (blk_cell BK329.out 6).trans rfl; have hczq3x29_7 : wq3.cell? ⟨gb329, 7, none⟩ = some (.slice A1_7 l1_7.length c1_7) := (blk_cell BK329.out 7).trans rfl; have hczq3x30_8 : wq3.cell? ⟨gb329, 8, none⟩ = some (.int .i64 a1_8) := (blk_cell BK329.out 8).trans rfl; have hfzq3x31_0 := blk_frozen BK329.out 0; have hfzq3x32_1 := blk_frozen BK329.out 1; have hfzq3x33_2 := blk_frozen BK329.out 2; have hfzq3x34_3 := blk_frozen BK329.out 3; have hfzq3x35_4 := blk_frozen BK329.out 4; have hfzq3x36_5 := blk_frozen BK329.out 5; have hfzq3x37_6 := blk_frozen BK329.out 6; have hfzq3x38_7 := blk_frozen BK329.out 7; have hfzq3x39_8 := blk_frozen BK329.out 8) | (go_at_call 38; (with_reducible refine (r1_Same.calls k _ _ l0_4 _ _ l1_4 _ _ ?side1 ?side2 ?side3 ?side4 Aq0.out).mono ?_); (case side1 => exact zc (Kd.C_below HR0_4.out HB.out)); (case side2 => exact HC0_4.out); (case side3 => exact zc (Kd.C_below HR1_4.out HB.out)); (case side4 => exact HC1_4.out); rintro e w' ⟨rfl, ⟨nd, rfl⟩⟩) | (go_at_call 39; (with_reducible refine (r4_Same.calls k _ _ l0_7 _ _ l1_7 _ _ ?side1 ?side2 ?side3 ?side4 Aq1.out).mono ?_); (case side1 => exact zc (Kd.C_below HR0_7.out (zh2 HB.out GE328.out GE329.out))); (case side2 => exact HC0_7.out); (case side3 => exact zc (Kd.C_below HR1_7.out (zh2 HB.out GE328.out GE329.out))); (case side4 => exact HC1_7.out); rintro e w' ⟨rfl, ⟨nd, rfl⟩⟩))
     go_ret
     exact ⟨ze, zh2 HB.out GE328.out GE329.out⟩))

/-! ### r9_small: function 33 -/
def r9_small.f (a0 : Int) : Option (Bool) := if a0 ≥ 0 then (some (decide (a0 ≤ 65535))) else (some false)
set_option maxHeartbeats 8000000 in
set_option maxRecDepth 100000 in
theorem r9_small.calls (a0 : Int) (r : Bool) (w : World) (h : r9_small.f a0 = some r) :
 Calls Try.prog 33 #[.int .i64 a0] w fun e w' => e = .returned (.bool r) ∧ Drawn0 w w' := by
 have H : (if a0 ≥ 0 then (some (decide (a0 ≤ 65535))) else (some false)) = some r := h
 clear h
 by_cases c2 : a0 ≥ 0
 · rw [if_pos c2] at H
   have c2b0 : decide (0 ≤ a0) = true := decide_eq_true c2
   clear c2
   obtain rfl := Option.some.inj H
   go_enter Try.func33, Try.ntmps33
   go_wp2
   go_ret
   exact ⟨by first | rfl | (simp; done) | (simp [*]; done), by repeat (first | exact Drawn0.refl _ | apply Drawn0.step)⟩
 · rw [if_neg c2] at H
   have c2b0 : decide (0 ≤ a0) = false := decide_eq_false c2
   clear c2
   obtain rfl := Option.some.inj H
   go_enter Try.func33, Try.ntmps33
   go_wp2
   go_ret
   exact ⟨by first | rfl | (simp; done) | (simp [*]; done), by repeat (first | exact Drawn0.refl _ | apply Drawn0.step)⟩

end Go.Proofs.Ytgigoogekimgkaa.GCrd
