/- printed for this claim by gprint.py, a program of this session, that drives the kit's printer. -/
import Derived.Test.YtgigoogekimgkaaGCrdx0
import Derived.Test.YtgigoogekimgkaaZ
import Derived.Test.YtgigoogekimgkaaGCrdx1
namespace Go.Proofs.Ytgigoogekimgkaa.GCrd
open Go.RowKit Go.Proofs.YtgigoogekimgkaaW.PrintWords Go.Proofs.YtgigoogekimgkaaW.PrintLast Go.Proofs.YtgigoogekimgkaaW.PrintMore
attribute [local go_sem] max2_int min2_int max_two min_two max_three min_three max_four min_four   -- for this text's walks alone
set_option linter.unusedVariables false
set_option linter.unusedSimpArgs false

attribute [local go_sem high] eqA48
/-! ### GConv.bytes: []byte(s) -/
def GConv.bytes.f (a0 : ByteArray) : Option (List Int) := if a0.size ≤ 9223372036854775807 then (some (bytesOf a0)) else (none)
theorem GConv.bytes.calls (a0 : ByteArray) (r : List Int) (w : World) (h : GConv.bytes.f a0 = some r) : ConvCalls Try.prog 9 62 a0 w fun e w' => ∃ v0_ : Value, e = .returned v0_ ∧ Kd.V (Kd.int .u8) 5 w' w.heap.size (fun k_ => w.heap.size ≤ k_) v0_ r ∧ Below w.heap.size w w' := by
 unfold GConv.bytes.f at h
 split at h
 · obtain rfl := Option.some.inj h
   exact bytes_conv w 9 62 5 a0 Try.underlying9 Try.underlying62 Try.underlying5 (by assumption)
 · cases h

/-! ### sl_Eq: function 40 -/
def sl_Eq.l0 : Nat → List Int → List Int → Int → Int → Option (Bool)
 | 0, _, _, _, _ => none
 | k + 1, x0, x1, x12, x13 => if x13 < x12 then (if 0 ≤ x13 then (if x13 < (x0.length : Int) then (if x13 < (x1.length : Int) then (if (rd x0 x13) = (rd x1 x13) then (sl_Eq.l0 k x0 x1 x12 (wrap64 (x13 + 1))) else (some false)) else (none)) else (none)) else (none)) else (some true)
def sl_Eq.f (k : Nat) (l0 : List Int) (l1 : List Int) : Option (Bool) := if (l0.length : Int) = (l1.length : Int) then (sl_Eq.l0 k l0 l1 (l0.length : Int) 0) else (some false)
theorem sl_Eq.mono_l : ∀ k, (∀ y0 y1 y2 y3, LeO (sl_Eq.l0 k y0 y1 y2 y3) (sl_Eq.l0 (k + 1) y0 y1 y2 y3))
 | 0 => fun _ _ _ _ r h => by simp [sl_Eq.l0] at h
 | k + 1 => by
   have ih0 := sl_Eq.mono_l k
   · intro y0 y1 y2 y3
     unfold sl_Eq.l0
     repeat' first
     | (with_reducible exact ih0 _ _ _ _)
     | (with_reducible exact LeO.refl _)
     | (with_reducible exact LeO.none _)
     | (with_reducible refine LeO.ite ?_ ?_)
     | (with_reducible refine LeO.bind ?_ (fun _ => ?_))
     | exact ih0 _ _ _ _
     | exact LeO.none _
     | refine LeO.ite ?_ ?_
     | refine LeO.bind ?_ (fun _ => ?_)
theorem sl_Eq.mono : ∀ a0 a1 k, LeO (sl_Eq.f k a0 a1) (sl_Eq.f (k + 1) a0 a1) := by
 intro a0 a1 k
 have ih0 := sl_Eq.mono_l k
 unfold sl_Eq.f
 repeat' first
  | (with_reducible exact ih0 _ _ _ _)
  | (with_reducible exact LeO.refl _)
  | (with_reducible exact LeO.none _)
  | (with_reducible refine LeO.ite ?_ ?_)
  | (with_reducible refine LeO.bind ?_ (fun _ => ?_))
  | exact ih0 _ _ _ _
  | exact LeO.none _
  | refine LeO.ite ?_ ?_
  | refine LeO.bind ?_ (fun _ => ?_)
set_option maxHeartbeats 8000000 in
set_option maxRecDepth 100000 in
theorem sl_Eq.calls (k : Nat) (A0 : Option Addr) (c0 : Nat) (l0 : List Int) (A1 : Option Addr) (c1 : Nat) (l1 : List Int) (r : Bool) (w : World) (hr0 : Kd.C (Kd.int .i64) w A0 l0.length l0) (hc0 : l0.length ≤ c0) (hr1 : Kd.C (Kd.int .i64) w A1 l1.length l1) (hc1 : l1.length ≤ c1) (h : sl_Eq.f k l0 l1 = some r) :
 Calls Try.prog 40 #[.slice A0 l0.length c0, .slice A1 l1.length c1] w fun e w' => e = .returned (.bool r) ∧ Drawn0 w w' := by
 have HR0 := Aside0.mk hr0
 have HC0 := Aside0.mk hc0
 clear hr0 hc0
 have HR1 := Aside0.mk hr1
 have HC1 := Aside0.mk hc1
 clear hr1 hc1
 have H : (if (l0.length : Int) = (l1.length : Int) then (sl_Eq.l0 k l0 l1 (l0.length : Int) 0) else (some false)) = some r := h
 clear h
 by_cases c3 : (l0.length : Int) = (l1.length : Int)
 · rw [if_pos c3] at H
   have c3b0 : ((l0.length : Int) == (l1.length : Int)) = true := beq_iff_eq.mpr c3
   have c3b1 : ((l0.length : Int) != (l1.length : Int)) = false := bne_eq_false_iff_eq.mpr c3
   have c3b2 : (l0.length == l1.length) = true := by first | simpa using c3 | (simp at c3 ⊢; omega)
   clear c3
   have H' := Aside0.mk H
   clear H
   go_enter Try.func40, Try.ntmps40
   go_wp2
   repeat (go_quiet (fail); try go_wp2)
   go_loopg [13] k (fun kq v13 w' => ∃ (x13_1 : Int), v13 = .int .i64 x13_1 ∧ Aside0 (sl_Eq.l0 kq l0 l1 (l0.length : Int) x13_1 = some r) ∧ Aside0 (kq ≤ k) ∧ Drawn0 w w')
   case atStart => exact ⟨(0), (zs), H', ⟨Nat.le_refl _⟩, by repeat (first | exact Drawn0.refl _ | apply Drawn0.step)⟩
   case round =>
    clear H'
    (try clear c1); (try clear p2)
    (try clear c3); (try clear c3b0)
    (try clear c3b1); (try clear c3b2)
    obtain ⟨x13_1, rfl, HA, HK1, ⟨m1, rfl⟩⟩ := hrel
    cases gk with
    | zero => exact absurd HA.out (by simp [sl_Eq.l0])
    | succ k1 =>
      have H := HA.out
      clear HA
      simp only [sl_Eq.l0] at H
      by_cases c4 : x13_1 < (l0.length : Int)
      · rw [if_pos c4] at H
        have c4b0 : decide (x13_1 < (l0.length : Int)) = true := decide_eq_true c4
        clear c4
        by_cases c5 : 0 ≤ x13_1
        · rw [if_pos c5] at H
          have c5b0 : decide (0 ≤ x13_1) = true := decide_eq_true c5
          clear c5
          by_cases c6 : x13_1 < (l0.length : Int)
          · rw [if_pos c6] at H
            have c6b0 : decide (x13_1 < (l0.length : Int)) = true := decide_eq_true c6
            clear c6
            by_cases c7 : x13_1 < (l1.length : Int)
            · rw [if_pos c7] at H
              have c7b0 : decide (x13_1 < (l1.length : Int)) = true := decide_eq_true c7
              clear c7
              by_cases c8 : (rd l0 x13_1) = (rd l1 x13_1)
              · rw [if_pos c8] at H
                have c8b0 : ((rd l0 x13_1) == (rd l1 x13_1)) = true := beq_iff_eq.mpr c8
                have c8b1 : ((rd l0 x13_1) != (rd l1 x13_1)) = false := bne_eq_false_iff_eq.mpr c8
                clear c8
                have H' := Aside0.mk H
                clear H
                have p101 : 0 ≤ (x13_1 : Int) := zd
                have q101 : x13_1 < (l0.length : Int) := zd
                obtain ⟨ad101, e101, hx101_0⟩ := Kd.at_int HR0.out x13_1 p101 q101
                cases e101
                replace p101 := eq_true p101
                replace q101 := eq_true q101
                have p102 : 0 ≤ (x13_1 : Int) := zd
                have q102 : x13_1 < (l1.length : Int) := zd
                obtain ⟨ad102, e102, hx102_0⟩ := Kd.at_int HR1.out x13_1 p102 q102
                cases e102
                replace p102 := eq_true p102
                replace q102 := eq_true q102
                go_wp2
                repeat (go_quiet (fail); try go_wp2)
                go_roundg k1
                case measure => have := HK1.out; omega
                case rel => exact ⟨(wrap64 (x13_1 + 1)), (zs), H', ⟨by have := HK1.out; omega⟩, by repeat (first | exact Drawn0.refl _ | apply Drawn0.step)⟩
              · rw [if_neg c8] at H
                have c8b0 : ((rd l0 x13_1) == (rd l1 x13_1)) = false := beq_eq_false_iff_ne.mpr c8
                have c8b1 : ((rd l0 x13_1) != (rd l1 x13_1)) = true := bne_iff_ne.mpr c8
                obtain rfl := Option.some.inj H
                have p101 : 0 ≤ (x13_1 : Int) := zd
                have q101 : x13_1 < (l0.length : Int) := zd
                obtain ⟨ad101, e101, hx101_0⟩ := Kd.at_int HR0.out x13_1 p101 q101
                cases e101
                replace p101 := eq_true p101
                replace q101 := eq_true q101
                have p102 : 0 ≤ (x13_1 : Int) := zd
                have q102 : x13_1 < (l1.length : Int) := zd
                obtain ⟨ad102, e102, hx102_0⟩ := Kd.at_int HR1.out x13_1 p102 q102
                cases e102
                replace p102 := eq_true p102
                replace q102 := eq_true q102
                go_wp2
                repeat (go_quiet (fail); try go_wp2)
                go_ret
                exact ⟨by first | rfl | (simp; done) | (simp [*]; done), by repeat (first | exact Drawn0.refl _ | apply Drawn0.step)⟩
            · rw [if_neg c7] at H
              exact absurd H (by simp)
          · rw [if_neg c6] at H
            exact absurd H (by simp)
        · rw [if_neg c5] at H
          exact absurd H (by simp)
      · rw [if_neg c4] at H
        have c4b0 : decide (x13_1 < (l0.length : Int)) = false := decide_eq_false c4
        clear c4
        obtain rfl := Option.some.inj H
        go_wp2
        repeat (go_quiet (fail); try go_wp2)
        go_ret
        exact ⟨by first | rfl | (simp; done) | (simp [*]; done), by repeat (first | exact Drawn0.refl _ | apply Drawn0.step)⟩
 · rw [if_neg c3] at H
   have c3b0 : ((l0.length : Int) == (l1.length : Int)) = false := beq_eq_false_iff_ne.mpr c3
   have c3b1 : ((l0.length : Int) != (l1.length : Int)) = true := bne_iff_ne.mpr c3
   have c3b2 : (l0.length == l1.length) = false := by first | simpa using c3 | (simp at c3 ⊢; omega)
   obtain rfl := Option.some.inj H
   go_enter Try.func40, Try.ntmps40
   go_wp2
   repeat (go_quiet (fail); try go_wp2)
   go_ret
   exact ⟨by first | rfl | (simp; done) | (simp [*]; done), by repeat (first | exact Drawn0.refl _ | apply Drawn0.step)⟩

/-! ### api_Span: function 41 -/
def api_Span.l0 : Nat → List (S48) → List (S48) → Int → Int → Option (Bool)
 | 0, _, _, _, _ => none
 | k + 1, x0, x1, x12, x13 => if x13 < x12 then (if 0 ≤ x13 then (if x13 < (x0.length : Int) then (if x13 < (x1.length : Int) then (if (!(((rd_T48 x0 x13).f0) == ((rd_T48 x1 x13).f0)) || (!(((rd_T48 x0 x13).f1) == ((rd_T48 x1 x13).f1)) || (!(((rd_T48 x0 x13).f2) == ((rd_T48 x1 x13).f2))))) = true then (some false) else (api_Span.l0 k x0 x1 x12 (wrap64 (x13 + 1)))) else (none)) else (none)) else (none)) else (some true)
def api_Span.f (k : Nat) (l0 : List (S48)) (l1 : List (S48)) : Option (Bool) := if (l0.length : Int) = (l1.length : Int) then (api_Span.l0 k l0 l1 (l0.length : Int) 0) else (some false)
theorem api_Span.mono_l : ∀ k, (∀ y0 y1 y2 y3, LeO (api_Span.l0 k y0 y1 y2 y3) (api_Span.l0 (k + 1) y0 y1 y2 y3))
 | 0 => fun _ _ _ _ r h => by simp [api_Span.l0] at h
 | k + 1 => by
   have ih0 := api_Span.mono_l k
   · intro y0 y1 y2 y3
     unfold api_Span.l0
     repeat' first
     | (with_reducible exact ih0 _ _ _ _)
     | (with_reducible exact LeO.refl _)
     | (with_reducible exact LeO.none _)
     | (with_reducible refine LeO.ite ?_ ?_)
     | (with_reducible refine LeO.bind ?_ (fun _ => ?_))
     | exact ih0 _ _ _ _
     | exact LeO.none _
     | refine LeO.ite ?_ ?_
     | refine LeO.bind ?_ (fun _ => ?_)
theorem api_Span.mono : ∀ a0 a1 k, LeO (api_Span.f k a0 a1) (api_Span.f (k + 1) a0 a1) := by
 intro a0 a1 k
 have ih0 := api_Span.mono_l k
 unfold api_Span.f
 repeat' first
  | (with_reducible exact ih0 _ _ _ _)
  | (with_reducible exact LeO.refl _)
  | (with_reducible exact LeO.none _)
  | (with_reducible refine LeO.ite ?_ ?_)
  | (with_reducible refine LeO.bind ?_ (fun _ => ?_))
  | exact ih0 _ _ _ _
  | exact LeO.none _
  | refine LeO.ite ?_ ?_
  | refine LeO.bind ?_ (fun _ => ?_)
set_option maxHeartbeats 8000000 in
set_option maxRecDepth 100000 in
theorem api_Span.calls (k : Nat) (A0 : Option Addr) (c0 : Nat) (l0 : List (S48)) (A1 : Option Addr) (c1 : Nat) (l1 : List (S48)) (r : Bool) (w : World) (hr0 : Kd.C k48 w A0 l0.length l0) (hc0 : l0.length ≤ c0) (hr1 : Kd.C k48 w A1 l1.length l1) (hc1 : l1.length ≤ c1) (h : api_Span.f k l0 l1 = some r) :
 Calls Try.prog 41 #[.slice A0 l0.length c0, .slice A1 l1.length c1] w fun e w' => e = .returned (.bool r) ∧ Drawn0 w w' := by
 have hu48 := Try.underlying48
 have HR0 := Aside0.mk hr0
 have HC0 := Aside0.mk hc0
 clear hr0 hc0
 have HR1 := Aside0.mk hr1
 have HC1 := Aside0.mk hc1
 clear hr1 hc1
 have H : (if (l0.length : Int) = (l1.length : Int) then (api_Span.l0 k l0 l1 (l0.length : Int) 0) else (some false)) = some r := h
 clear h
 by_cases c3 : (l0.length : Int) = (l1.length : Int)
 · rw [if_pos c3] at H
   have c3b0 : ((l0.length : Int) == (l1.length : Int)) = true := beq_iff_eq.mpr c3
   have c3b1 : ((l0.length : Int) != (l1.length : Int)) = false := bne_eq_false_iff_eq.mpr c3
   have c3b2 : (l0.length == l1.length) = true := by first | simpa using c3 | (simp at c3 ⊢; omega)
   clear c3
   have H' := Aside0.mk H
   clear H
   go_enter Try.func41, Try.ntmps41
   go_wp2
   repeat (go_quiet (fail); try go_wp2)
   go_loopg [13] k (fun kq v13 w' => ∃ (x13_1 : Int), v13 = .int .i64 x13_1 ∧ Aside0 (api_Span.l0 kq l0 l1 (l0.length : Int) x13_1 = some r) ∧ Aside0 (kq ≤ k) ∧ Drawn0 w w')
   case atStart => exact ⟨(0), (zs), H', ⟨Nat.le_refl _⟩, by repeat (first | exact Drawn0.refl _ | apply Drawn0.step)⟩
   case round =>
    clear H'
    (try clear c1); (try clear p2)
    (try clear c3); (try clear c3b0)
    (try clear c3b1); (try clear c3b2)
    obtain ⟨x13_1, rfl, HA, HK1, ⟨m1, rfl⟩⟩ := hrel
    cases gk with
    | zero => exact absurd HA.out (by simp [api_Span.l0])
    | succ k1 =>
      have H := HA.out
      clear HA
      simp only [api_Span.l0] at H
      by_cases c4 : x13_1 < (l0.length : Int)
      · rw [if_pos c4] at H
        have c4b0 : decide (x13_1 < (l0.length : Int)) = true := decide_eq_true c4
        clear c4
        by_cases c5 : 0 ≤ x13_1
        · rw [if_pos c5] at H
          have c5b0 : decide (0 ≤ x13_1) = true := decide_eq_true c5
          clear c5
          by_cases c6 : x13_1 < (l0.length : Int)
          · rw [if_pos c6] at H
            have c6b0 : decide (x13_1 < (l0.length : Int)) = true := decide_eq_true c6
            clear c6
            by_cases c7 : x13_1 < (l1.length : Int)
            · rw [if_pos c7] at H
              have c7b0 : decide (x13_1 < (l1.length : Int)) = true := decide_eq_true c7
              clear c7
              by_cases c8 : (!(((rd_T48 l0 x13_1).f0) == ((rd_T48 l1 x13_1).f0)) || (!(((rd_T48 l0 x13_1).f1) == ((rd_T48 l1 x13_1).f1)) || (!(((rd_T48 l0 x13_1).f2) == ((rd_T48 l1 x13_1).f2))))) = true
              · rw [if_pos c8] at H
                have c8b0 : (!(((rd_T48 l0 x13_1).f0) == ((rd_T48 l1 x13_1).f0)) || (!(((rd_T48 l0 x13_1).f1) == ((rd_T48 l1 x13_1).f1)) || (!(((rd_T48 l0 x13_1).f2) == ((rd_T48 l1 x13_1).f2))))) = true := c8
                clear c8
                obtain rfl := Option.some.inj H
                have p103 : 0 ≤ (x13_1 : Int) := zd
                have q103 : x13_1 < (l0.length : Int) := zd
                obtain ⟨ad103, e103, hx103_0, hx103_1, hx103_2⟩ := at_T48 HR0.out x13_1 p103 q103
                cases e103
                replace p103 := eq_true p103
                replace q103 := eq_true q103
                have p104 : 0 ≤ (x13_1 : Int) := zd
                have q104 : x13_1 < (l1.length : Int) := zd
                obtain ⟨ad104, e104, hx104_0, hx104_1, hx104_2⟩ := at_T48 HR1.out x13_1 p104 q104
                cases e104
                replace p104 := eq_true p104
                replace q104 := eq_true q104
                go_wp2
                repeat (go_quiet (fail); try go_wp2)
                go_ret
                exact ⟨by first | rfl | (simp; done) | (simp [*]; done), by repeat (first | exact Drawn0.refl _ | apply Drawn0.step)⟩
              · rw [if_neg c8] at H
                have c8b0 : (!(((rd_T48 l0 x13_1).f0) == ((rd_T48 l1 x13_1).f0)) || (!(((rd_T48 l0 x13_1).f1) == ((rd_T48 l1 x13_1).f1)) || (!(((rd_T48 l0 x13_1).f2) == ((rd_T48 l1 x13_1).f2))))) = false := by simpa using c8
                clear c8
                have H' := Aside0.mk H
                clear H
                have p103 : 0 ≤ (x13_1 : Int) := zd
                have q103 : x13_1 < (l0.length : Int) := zd
                obtain ⟨ad103, e103, hx103_0, hx103_1, hx103_2⟩ := at_T48 HR0.out x13_1 p103 q103
                cases e103
                replace p103 := eq_true p103
                replace q103 := eq_true q103
                have p104 : 0 ≤ (x13_1 : Int) := zd
                have q104 : x13_1 < (l1.length : Int) := zd
                obtain ⟨ad104, e104, hx104_0, hx104_1, hx104_2⟩ := at_T48 HR1.out x13_1 p104 q104
                cases e104
                replace p104 := eq_true p104
                replace q104 := eq_true q104
                go_wp2
                repeat (go_quiet (fail); try go_wp2)
                go_roundg k1
                case measure => have := HK1.out; omega
                case rel => exact ⟨(wrap64 (x13_1 + 1)), (zs), H', ⟨by have := HK1.out; omega⟩, by repeat (first | exact Drawn0.refl _ | apply Drawn0.step)⟩
            · rw [if_neg c7] at H
              exact absurd H (by simp)
          · rw [if_neg c6] at H
            exact absurd H (by simp)
        · rw [if_neg c5] at H
          exact absurd H (by simp)
      · rw [if_neg c4] at H
        have c4b0 : decide (x13_1 < (l0.length : Int)) = false := decide_eq_false c4
        clear c4
        obtain rfl := Option.some.inj H
        go_wp2
        repeat (go_quiet (fail); try go_wp2)
        go_ret
        exact ⟨by first | rfl | (simp; done) | (simp [*]; done), by repeat (first | exact Drawn0.refl _ | apply Drawn0.step)⟩
 · rw [if_neg c3] at H
   have c3b0 : ((l0.length : Int) == (l1.length : Int)) = false := beq_eq_false_iff_ne.mpr c3
   have c3b1 : ((l0.length : Int) != (l1.length : Int)) = true := bne_iff_ne.mpr c3
   have c3b2 : (l0.length == l1.length) = false := by first | simpa using c3 | (simp at c3 ⊢; omega)
   obtain rfl := Option.some.inj H
   go_enter Try.func41, Try.ntmps41
   go_wp2
   repeat (go_quiet (fail); try go_wp2)
   go_ret
   exact ⟨by first | rfl | (simp; done) | (simp [*]; done), by repeat (first | exact Drawn0.refl _ | apply Drawn0.step)⟩

/-! ### cards_Same: function 16 -/
def cards_Same.f (k : Nat) (a0_0 : Int) (a0_1 : Int) (a0_2 : Int) (a0_3 : Int) (l0_4 : List Int) (a0_5 : Int) (a0_6 : Int) (l0_7 : List (S48)) (a0_8 : Int) (a1_0 : Int) (a1_1 : Int) (a1_2 : Int) (a1_3 : Int) (l1_4 : List Int) (a1_5 : Int) (a1_6 : Int) (l1_7 : List (S48)) (a1_8 : Int) : Option (Bool) := (sl_Eq.f k l0_4 l1_4).bind fun t => (if t = true then ((api_Span.f k l0_7 l1_7).bind fun u => (if u = true then (some (a0_0 == a1_0 && (a0_1 == a1_1 && (a0_2 == a1_2 && (a0_3 == a1_3 && (a0_5 == a1_5 && (a0_6 == a1_6 && a0_8 == a1_8))))))) else (some false))) else (some false))
theorem cards_Same.mono : ∀ a0_0 a0_1 a0_2 a0_3 l0_4 a0_5 a0_6 l0_7 a0_8 a1_0 a1_1 a1_2 a1_3 l1_4 a1_5 a1_6 l1_7 a1_8 k, LeO (cards_Same.f k a0_0 a0_1 a0_2 a0_3 l0_4 a0_5 a0_6 l0_7 a0_8 a1_0 a1_1 a1_2 a1_3 l1_4 a1_5 a1_6 l1_7 a1_8) (cards_Same.f (k + 1) a0_0 a0_1 a0_2 a0_3 l0_4 a0_5 a0_6 l0_7 a0_8 a1_0 a1_1 a1_2 a1_3 l1_4 a1_5 a1_6 l1_7 a1_8) := by
 intro a0_0 a0_1 a0_2 a0_3 l0_4 a0_5 a0_6 l0_7 a0_8 a1_0 a1_1 a1_2 a1_3 l1_4 a1_5 a1_6 l1_7 a1_8 k
 unfold cards_Same.f
 exact LeO.bind (sl_Eq.mono _ _ _) (fun _ => LeO.ite (LeO.bind (api_Span.mono _ _ _) (fun _ => LeO.refl _)) (LeO.refl _))
theorem cards_Same.item {P : Program} {w : World} {d e c j : Nat} {js : List Nat} {xs ys : Array Value} {a b : Value} {r s : Bool} (ha : (part e xs (j * c)).run P w = .ok a w) (hb : (part e ys (j * c)).run P w = .ok b w) (he : (Op.equalIn d e a b).run P w = .ok r w) (hr : (Op.eqItems d e c xs ys js).run P w = .ok s w) : (Op.eqItems d e c xs ys (j :: js)).run P w = .ok (r && s) w := by
 simp only [Op.eqItems, Sem.run_bind, ha, hb, he, Result.andThen_ok]
 cases r <;> simp [hr]
theorem cards_Same.last {P : Program} {w : World} {d e c j : Nat} {xs ys : Array Value} {a b : Value} {r : Bool} (ha : (part e xs (j * c)).run P w = .ok a w) (hb : (part e ys (j * c)).run P w = .ok b w) (he : (Op.equalIn d e a b).run P w = .ok r w) : (Op.eqItems d e c xs ys [j]).run P w = .ok r w := by
 simp only [Op.eqItems, Sem.run_bind, ha, hb, he, Result.andThen_ok]
 cases r <;> simp
theorem cards_Same.seven (w : World) (a0 a1 a2 a3 a4 a5 a6 b0 b1 b2 b3 b4 b5 b6 : Int) : (Op.equalIn 10000 59 (.agg #[.int .i64 a0, .int .i64 a1, .int .i64 a2, .int .i64 a3, .int .i64 a4, .int .i64 a5, .int .i64 a6]) (.agg #[.int .i64 b0, .int .i64 b1, .int .i64 b2, .int .i64 b3, .int .i64 b4, .int .i64 b5, .int .i64 b6])).run Try.prog w = .ok (a0 == b0 && (a1 == b1 && (a2 == b2 && (a3 == b3 && (a4 == b4 && (a5 == b5 && a6 == b6)))))) w := by
 obtain ⟨i, hi⟩ : ∃ i, Try.prog.info? 3 = some i := by
  have h := info3
  cases hh : Try.prog.info? 3 with
  | none => rw [hh] at h; cases h
  | some i => exact ⟨i, rfl⟩
 rw [run_equalIn_array (w := w) 9999 _ _ Try.underlying59 hi, show Try.prog.cellsOf 3 = 1 by kernel_rfl, show List.range 7 = [0, 1, 2, 3, 4, 5, 6] from rfl]
 refine cards_Same.item (by go_simp; rfl) (by go_simp; rfl) (by go_simp) ?_
 refine cards_Same.item (by go_simp; rfl) (by go_simp; rfl) (by go_simp) ?_
 refine cards_Same.item (by go_simp; rfl) (by go_simp; rfl) (by go_simp) ?_
 refine cards_Same.item (by go_simp; rfl) (by go_simp; rfl) (by go_simp) ?_
 refine cards_Same.item (by go_simp; rfl) (by go_simp; rfl) (by go_simp) ?_
 refine cards_Same.item (by go_simp; rfl) (by go_simp; rfl) (by go_simp) ?_
 exact cards_Same.last (by go_simp; rfl) (by go_simp; rfl) (by go_simp)
set_option maxHeartbeats 4000000 in
set_option maxRecDepth 100000 in
theorem cards_Same.plain (a0_0 a0_1 a0_2 a0_3 : Int) (A4 : Option Addr) (n4 c4 : Nat) (a0_5 a0_6 : Int) (A7 : Option Addr) (n7 c7 : Nat) (a0_8 : Int) (w : World) :
 Calls Try.prog 42 #[.agg #[.int .i64 a0_0, .int .i64 a0_1, .int .i64 a0_2, .int .i64 a0_3, .slice A4 n4 c4, .int .i64 a0_5, .int .i64 a0_6, .slice A7 n7 c7, .int .i64 a0_8]] w fun e w' => e = .returned (.agg #[.int .i64 a0_0, .int .i64 a0_1, .int .i64 a0_2, .int .i64 a0_3, .int .i64 a0_5, .int .i64 a0_6, .int .i64 a0_8]) ∧ w' = (w.alloc (.cells #[.int .i64 a0_0, .int .i64 a0_1, .int .i64 a0_2, .int .i64 a0_3, .slice A4 n4 c4, .int .i64 a0_5, .int .i64 a0_6, .slice A7 n7 c7, .int .i64 a0_8] 25)).alloc (.cells #[.int .i64 a0_0, .int .i64 a0_1, .int .i64 a0_2, .int .i64 a0_3, .int .i64 a0_5, .int .i64 a0_6, .int .i64 a0_8] 59) := by
 have hu25 := Try.underlying25
 go_enter Try.func42, Try.ntmps42
 go_wp2
 have hs : (w.alloc (Obj.cells #[.int .i64 a0_0, .int .i64 a0_1, .int .i64 a0_2, .int .i64 a0_3, .slice A4 n4 c4, .int .i64 a0_5, .int .i64 a0_6, .slice A7 n7 c7, .int .i64 a0_8] 25)).heap.size = w.heap.size + 1 := Array.size_push _
 have hg := blk_new (w.alloc (.cells #[.int .i64 a0_0, .int .i64 a0_1, .int .i64 a0_2, .int .i64 a0_3, .slice A4 n4 c4, .int .i64 a0_5, .int .i64 a0_6, .slice A7 n7 c7, .int .i64 a0_8] 25)) (.cells #[.int .i64 a0_0, .int .i64 a0_1, .int .i64 a0_2, .int .i64 a0_3, .int .i64 a0_5, .int .i64 a0_6, .int .i64 a0_8] 59)
 rw [hs] at hg
 refine bodyPost_ret (results_single rfl (.cell (w.heap.size + 1) 59 #[.int .i64 a0_0, .int .i64 a0_1, .int .i64 a0_2, .int .i64 a0_3, .int .i64 a0_5, .int .i64 a0_6, .int .i64 a0_8] (0, 0) _ rfl hg Try.underlying59 rfl (by kernel_rfl) .nil)) rfl ?_
 exact ⟨rfl, rfl⟩
set_option maxHeartbeats 8000000 in
set_option maxRecDepth 100000 in
theorem cards_Same.calls (k : Nat) (a0_0 : Int) (a0_1 : Int) (a0_2 : Int) (a0_3 : Int) (A0_4 : Option Addr) (c0_4 : Nat) (l0_4 : List Int) (a0_5 : Int) (a0_6 : Int) (A0_7 : Option Addr) (c0_7 : Nat) (l0_7 : List (S48)) (a0_8 : Int) (a1_0 : Int) (a1_1 : Int) (a1_2 : Int) (a1_3 : Int) (A1_4 : Option Addr) (c1_4 : Nat) (l1_4 : List Int) (a1_5 : Int) (a1_6 : Int) (A1_7 : Option Addr) (c1_7 : Nat) (l1_7 : List (S48)) (a1_8 : Int) (r : Bool) (w : World) (hr0_4 : Kd.C (Kd.int .i64) w A0_4 l0_4.length l0_4) (hc0_4 : l0_4.length ≤ c0_4) (hr0_7 : Kd.C k48 w A0_7 l0_7.length l0_7) (hc0_7 : l0_7.length ≤ c0_7) (hr1_4 : Kd.C (Kd.int .i64) w A1_4 l1_4.length l1_4) (hc1_4 : l1_4.length ≤ c1_4) (hr1_7 : Kd.C k48 w A1_7 l1_7.length l1_7) (hc1_7 : l1_7.length ≤ c1_7) (h : cards_Same.f k a0_0 a0_1 a0_2 a0_3 l0_4 a0_5 a0_6 l0_7 a0_8 a1_0 a1_1 a1_2 a1_3 l1_4 a1_5 a1_6 l1_7 a1_8 = some r) :
 Calls Try.prog 16 #[.agg #[.int .i64 a0_0, .int .i64 a0_1, .int .i64 a0_2, .int .i64 a0_3, .slice A0_4 l0_4.length c0_4, .int .i64 a0_5, .int .i64 a0_6, .slice A0_7 l0_7.length c0_7, .int .i64 a0_8], .agg #[.int .i64 a1_0, .int .i64 a1_1, .int .i64 a1_2, .int .i64 a1_3, .slice A1_4 l1_4.length c1_4, .int .i64 a1_5, .int .i64 a1_6, .slice A1_7 l1_7.length c1_7, .int .i64 a1_8]] w fun e w' => e = .returned (.bool r) ∧ Below w.heap.size w w' := by
 have hu25 := Try.underlying25
 obtain ⟨t, ht, h⟩ := Option.bind_eq_some_iff.1 h
 have ct : ∀ W : World, Below w.heap.size w W → Calls Try.prog 40 #[.slice A0_4 l0_4.length c0_4, .slice A1_4 l1_4.length c1_4] W fun e w' => e = .returned (.bool t) ∧ Drawn0 W w' := fun W hW => sl_Eq.calls k A0_4 c0_4 l0_4 A1_4 c1_4 l1_4 t W (Kd.C_below hr0_4 hW) hc0_4 (Kd.C_below hr1_4 hW) hc1_4 ht
 have CT := Aside0.mk ct
 clear ct ht
 have HB := Aside0.mk (Below.refl w.heap.size w)
 cases t with
 | false =>
   obtain rfl : false = r := by simpa using h
   clear h hr0_4 hr1_4 hr0_7 hr1_7
   generalize l0_4.length = n04 at *
   generalize l1_4.length = n14 at *
   generalize l0_7.length = n07 at *
   generalize l1_7.length = n17 at *
   go_enter Try.func16, Try.ntmps16
   go_wp2_with (go_at_call 40; (with_reducible refine (CT.out _ (by repeat (first | exact HB.out | apply below_alloc))).mono ?_); rintro e w' ⟨rfl, nd, rfl⟩)
   go_ret
   exact ⟨rfl, by repeat (first | exact HB.out | apply below_alloc | apply pw_below_drewN)⟩
 | true =>
   simp only [if_true] at h
   obtain ⟨u, hu, h⟩ := Option.bind_eq_some_iff.1 h
   have cu : ∀ W : World, Below w.heap.size w W → Calls Try.prog 41 #[.slice A0_7 l0_7.length c0_7, .slice A1_7 l1_7.length c1_7] W fun e w' => e = .returned (.bool u) ∧ Drawn0 W w' := fun W hW => api_Span.calls k A0_7 c0_7 l0_7 A1_7 c1_7 l1_7 u W (Kd.C_below hr0_7 hW) hc0_7 (Kd.C_below hr1_7 hW) hc1_7 hu
   have CU := Aside0.mk cu
   clear cu hu hr0_4 hr1_4 hr0_7 hr1_7
   generalize l0_4.length = n04 at *
   generalize l1_4.length = n14 at *
   generalize l0_7.length = n07 at *
   generalize l1_7.length = n17 at *
   cases u with
   | false =>
     obtain rfl : false = r := by simpa using h
     clear h
     go_enter Try.func16, Try.ntmps16
     go_wp2_with (first | (go_at_call 40; (with_reducible refine (CT.out _ (by repeat (first | exact HB.out | apply below_alloc))).mono ?_); rintro e w' ⟨rfl, nd, rfl⟩) | (go_at_call 41; (with_reducible refine (CU.out _ (by repeat (first | exact HB.out | apply below_alloc | apply pw_below_drewN))).mono ?_); rintro e w' ⟨rfl, nd2, rfl⟩))
     go_ret
     exact ⟨rfl, by repeat (first | exact HB.out | apply below_alloc | apply pw_below_drewN)⟩
   | true =>
     simp only [if_true, Option.some.injEq] at h
     go_enter Try.func16, Try.ntmps16
     go_wp2_with (first | (go_at_call 40; (with_reducible refine (CT.out _ (by repeat (first | exact HB.out | apply below_alloc))).mono ?_); rintro e w' ⟨rfl, nd, rfl⟩) | (go_at_call 41; (with_reducible refine (CU.out _ (by repeat (first | exact HB.out | apply below_alloc | apply pw_below_drewN))).mono ?_); rintro e w' ⟨rfl, nd2, rfl⟩) | (go_at_call 42; (with_reducible refine (cards_Same.plain _ _ _ _ _ _ _ _ _ _ _ _ _ _).mono ?_); rintro e w' ⟨rfl, rfl⟩))
     have h7 := fun W : World => cards_Same.seven W a0_0 a0_1 a0_2 a0_3 a0_5 a0_6 a0_8 a1_0 a1_1 a1_2 a1_3 a1_5 a1_6 a1_8
     go_region_with (go_at_call 42; (with_reducible refine (cards_Same.plain _ _ _ _ _ _ _ _ _ _ _ _ _ _).mono ?_); rintro e w' ⟨rfl, rfl⟩)
     all_goals (
      go_wp2
      go_ret
      rw [← h]
      exact ⟨rfl, by repeat (first | exact HB.out | apply below_alloc | apply pw_below_drewN | apply below_drew1)⟩)
/-! ### cards_none: function 22 -/
def cards_none.f (k : Nat) (a0_0 : Int) (a0_1 : Int) (a0_2 : Int) (a0_3 : Int) (l0_4 : List Int) (a0_5 : Int) (a0_6 : Int) (l0_7 : List (S48)) (a0_8 : Int) : Option (Bool) := (cards_Same.f k a0_0 a0_1 a0_2 a0_3 l0_4 a0_5 a0_6 l0_7 a0_8 0 0 0 0 ([] : List Int) 0 0 ([] : List (S48)) 0).bind fun t106 => (some t106)
theorem cards_none.mono : ∀ a0 a1 a2 a3 a4 a5 a6 a7 a8 k, LeO (cards_none.f k a0 a1 a2 a3 a4 a5 a6 a7 a8) (cards_none.f (k + 1) a0 a1 a2 a3 a4 a5 a6 a7 a8) := by
 intro a0 a1 a2 a3 a4 a5 a6 a7 a8 k
 unfold cards_none.f
 repeat' first
  | (with_reducible exact cards_Same.mono _ _ _ _ _ _ _ _ _ _ _ _ _ _ _ _ _ _ _)
  | (with_reducible exact LeO.refl _)
  | (with_reducible exact LeO.none _)
  | (with_reducible refine LeO.ite ?_ ?_)
  | (with_reducible refine LeO.bind ?_ (fun _ => ?_))
  | exact cards_Same.mono _ _ _ _ _ _ _ _ _ _ _ _ _ _ _ _ _ _ _
  | exact LeO.none _
  | refine LeO.ite ?_ ?_
  | refine LeO.bind ?_ (fun _ => ?_)
set_option maxHeartbeats 8000000 in
set_option maxRecDepth 100000 in
theorem cards_none.calls (k : Nat) (a0_0 : Int) (a0_1 : Int) (a0_2 : Int) (a0_3 : Int) (A0_4 : Option Addr) (c0_4 : Nat) (l0_4 : List Int) (a0_5 : Int) (a0_6 : Int) (A0_7 : Option Addr) (c0_7 : Nat) (l0_7 : List (S48)) (a0_8 : Int) (r : Bool) (w : World) (hr0_4 : Kd.C (Kd.int .i64) w A0_4 l0_4.length l0_4) (hc0_4 : l0_4.length ≤ c0_4) (hr0_7 : Kd.C k48 w A0_7 l0_7.length l0_7) (hc0_7 : l0_7.length ≤ c0_7) (h : cards_none.f k a0_0 a0_1 a0_2 a0_3 l0_4 a0_5 a0_6 l0_7 a0_8 = some r) :
 Calls Try.prog 22 #[.agg #[.int .i64 a0_0, .int .i64 a0_1, .int .i64 a0_2, .int .i64 a0_3, .slice A0_4 l0_4.length c0_4, .int .i64 a0_5, .int .i64 a0_6, .slice A0_7 l0_7.length c0_7, .int .i64 a0_8]] w fun e w' => e = .returned (.bool r) ∧ Below w.heap.size w w' := by
 have hu25 := Try.underlying25
 have HR0_4 := Aside0.mk hr0_4
 have HC0_4 := Aside0.mk hc0_4
 clear hr0_4 hc0_4
 have HR0_7 := Aside0.mk hr0_7
 have HC0_7 := Aside0.mk hc0_7
 clear hr0_7 hc0_7
 have HB := Aside0.mk (Below.refl w.heap.size w)
 have H : ((cards_Same.f k a0_0 a0_1 a0_2 a0_3 l0_4 a0_5 a0_6 l0_7 a0_8 0 0 0 0 ([] : List Int) 0 0 ([] : List (S48)) 0).bind fun t106 => (some t106)) = some r := h
 clear h
 replace H := Option.bind_eq_some_iff.mp H
 obtain ⟨t106, A20, H⟩ := H
 replace H : (some t106) = some r := H
 have A2 := Aside0.mk A20
 clear A20
 obtain rfl := Option.some.inj H
 go_enter Try.func22, Try.ntmps22
 go_wp2_with (first | ((with_reducible refine gate_dst (N := 1) rfl ?_); refine zbx (N := 1) (cs := #[.int .i64 a0_0, .int .i64 a0_1, .int .i64 a0_2, .int .i64 a0_3, .slice A0_4 l0_4.length c0_4, .int .i64 a0_5, .int .i64 a0_6, .slice A0_7 l0_7.length c0_7, .int .i64 a0_8]) (t := 25) ?_; intro gb105 hg w3 hbox hb; have BK105 := Aside0.mk (hbox); have GW105 := Aside0.mk ((by rw [hg]; exact (below_size (zh0 HB.out)) : w.heap.size ≤ gb105)); have GE105 := GW105; replace HB := Aside0.mk (below_step (zh0 HB.out) hb); clear hb hbox hg; obtain ⟨hcz4_0, hcz4_1, hcz4_2, hcz4_3, hcz4_4, hcz4_5, hcz4_6, hcz4_7, hcz4_8⟩ := cells9 BK105.out; obtain ⟨hfz4_0, hfz4_1, hfz4_2, hfz4_3, hfz4_4, hfz4_5, hfz4_6, hfz4_7, hfz4_8⟩ := frozen9 BK105.out) | ((with_reducible refine gate_callee (f := 16) rfl ?_); refine zgl (some 5) Try.func16 #[.agg #[.int .i64 a0_0, .int .i64 a0_1, .int .i64 a0_2, .int .i64 a0_3, .slice A0_4 l0_4.length c0_4, .int .i64 a0_5, .int .i64 a0_6, .slice A0_7 l0_7.length c0_7, .int .i64 a0_8], .agg #[.int .i64 0, .int .i64 0, .int .i64 0, .int .i64 0, .slice none 0 0, .int .i64 0, .int .i64 0, .slice none 0 0, .int .i64 0]] ?_; (refine (cards_Same.calls k a0_0 a0_1 a0_2 a0_3 _ _ l0_4 a0_5 a0_6 _ _ l0_7 a0_8 0 0 0 0 _ _ ([] : List Int) 0 0 _ _ ([] : List (S48)) 0 t106 _ ?side1 ?side2 ?side3 ?side4 ?side5 ?side6 ?side7 ?side8 A2.out).mono ?_); (case side1 => exact zc (Kd.C_below HR0_4.out HB.out)); (case side2 => exact HC0_4.out); (case side3 => exact zc (Kd.C_below HR0_7.out HB.out)); (case side4 => exact HC0_7.out); (case side5 => exact Kd.C_nil _ _); (case side6 => exact Nat.le_refl _); (case side7 => exact Kd.C_nil _ _); (case side8 => exact Nat.le_refl _); rintro e w5 ⟨rfl, hb⟩; refine ⟨_, rfl, ?_⟩; replace BK105 := Aside0.mk (zB BK105.out hb); replace HB := Aside0.mk (below_step (zh1 HB.out GE105.out) hb); (try clear hb); (try clear hb2); (try clear hk); (try clear hi)))
 go_ret
 exact ⟨ze, zh1 HB.out GE105.out⟩

-- NOT PRINTED: function 49 (slices_Grow_int_int)

/-! ### GGrow: a call with a constant function -/
def GGrow.f (a0 : Int) : Option (List Int) := if 0 ≤ a0 then (if a0 ≤ 17592186044416 then (some []) else (none)) else (none)
set_option maxHeartbeats 4000000 in
set_option maxRecDepth 100000 in
theorem GGrow.calls (a0 : Int) (r : List Int) (w : World) (h : GGrow.f a0 = some r) :
 Calls Try.prog 49 #[.slice none 0 0, .int .i64 a0] w fun e w' => ∃ v0_ : Value, e = .returned (v0_) ∧ Kd.R (Kd.int .i64) 3 w' w.heap.size (fun _ => True) v0_ r ∧ Below w.heap.size w w' := by
 unfold GGrow.f at h
 split at h
 · rename_i h1
   split at h
   · rename_i h2
     obtain rfl := Option.some.inj h
     clear h
     have hneg : decide (a0 < 0) = false := decide_eq_false (by omega)
     by_cases hz : 0 < a0
     · have hpos : decide (0 < a0) = true := decide_eq_true hz
       have HB := Below.refl w.heap.size w
       have hw : a0 ≤ 9223372036854775807 := by omega
       go_enter Try.func49, Try.ntmps49
       go_wp2_with (first | ((with_reducible refine gate_builtin (b := .append) (xs := #[.tmp 20, .tmp 21]) rfl ?_); at_builtin; refine Kd.R_append_zeros (Kd.int .i64) (w0 := w) w.heap.size rfl (.tmp 20) (.tmp 21) 22 3 3 (.int .i64 0) 8 rfl Try.underlying22 Try.underlying3 info3 rfl (by decide) (by omega) (.slice none 0 0) [] 0 (a0 : Int) (fun _ => True) rfl rfl (by exact rfl) (fun _ _ => trivial) (Kd.R_nil _ _ _ _ _) h1 HB (Nat.le_refl _) (by rw [List.length_nil]; omega) ?_; intro v1 w1 ho hb hg hat; rw [List.nil_append] at ho; obtain ⟨ad, cc, rfl⟩ := Kd.R_slice1 ho (by rw [List.length_replicate]; omega); rw [List.length_replicate] at ho; clear hg hat HB))
       go_ret
       exact ⟨_, rfl, by have h_ := Kd.R_take ho (m := 0) (Nat.zero_le _); rw [List.take_zero] at h_; exact h_, hb⟩
     · obtain rfl : a0 = 0 := by omega
       go_enter Try.func49, Try.ntmps49
       go_wp2
       go_ret
       exact ⟨_, rfl, Kd.R_nil _ _ _ _ _, Below.refl _ _⟩
   · cases h
 · cases h
/-! ### sl_Cc: function 28 -/
mutual
def sl_Cc.l0 : Nat → List (List Int) → Int → List (List Int) → Int → Int → Option (List Int)
 | 0, _, _, _, _, _ => none
 | k + 1, x0, x3, x9, x10, x11 => if x11 < x10 then (if 0 ≤ x11 then (if x11 < (x9.length : Int) then (if (wrap64 (x3 + ((rd_L2 x9 x11).length : Int))) < 0 then (none) else (sl_Cc.l0 k x0 (wrap64 (x3 + ((rd_L2 x9 x11).length : Int))) x9 x10 (wrap64 (x11 + 1)))) else (none)) else (none)) else ((GGrow.f x3).bind fun t108 => (sl_Cc.l1 k t108 x0 (x0.length : Int) 0))
def sl_Cc.l1 : Nat → List Int → List (List Int) → Int → Int → Option (List Int)
 | 0, _, _, _, _ => none
 | k + 1, x6, x25, x26, x27 => if x27 < x26 then (if 0 ≤ x27 then (if x27 < (x25.length : Int) then (if x6.length + (rd_L2 x25 x27).length < 17592186044416 then (sl_Cc.l1 k (x6 ++ (rd_L2 x25 x27)) x25 x26 (wrap64 (x27 + 1))) else (none)) else (none)) else (none)) else (some x6)
end
def sl_Cc.f (k : Nat) (l0 : List (List Int)) : Option (List Int) := sl_Cc.l0 k l0 0 l0 (l0.length : Int) 0
theorem sl_Cc.mono_l : ∀ k, (∀ y0 y1 y2 y3 y4, LeO (sl_Cc.l0 k y0 y1 y2 y3 y4) (sl_Cc.l0 (k + 1) y0 y1 y2 y3 y4)) ∧ (∀ y0 y1 y2 y3, LeO (sl_Cc.l1 k y0 y1 y2 y3) (sl_Cc.l1 (k + 1) y0 y1 y2 y3))
 | 0 => ⟨fun _ _ _ _ _ r h => by simp [sl_Cc.l0] at h, fun _ _ _ _ r h => by simp [sl_Cc.l1] at h⟩
 | k + 1 => by
   obtain ⟨ih0, ih1⟩ := sl_Cc.mono_l k
   refine ⟨?_, ?_⟩
   · intro y0 y1 y2 y3 y4
     unfold sl_Cc.l0
     repeat' first
     | (with_reducible exact ih0 _ _ _ _ _)
     | (with_reducible exact ih1 _ _ _ _)
     | (with_reducible exact LeO.refl _)
     | (with_reducible exact LeO.none _)
     | (with_reducible refine LeO.ite ?_ ?_)
     | (with_reducible refine LeO.bind ?_ (fun _ => ?_))
     | exact ih0 _ _ _ _ _
     | exact ih1 _ _ _ _
     | exact LeO.none _
     | refine LeO.ite ?_ ?_
     | refine LeO.bind ?_ (fun _ => ?_)
   · intro y0 y1 y2 y3
     unfold sl_Cc.l1
     repeat' first
     | (with_reducible exact ih0 _ _ _ _ _)
     | (with_reducible exact ih1 _ _ _ _)
     | (with_reducible exact LeO.refl _)
     | (with_reducible exact LeO.none _)
     | (with_reducible refine LeO.ite ?_ ?_)
     | (with_reducible refine LeO.bind ?_ (fun _ => ?_))
     | exact ih0 _ _ _ _ _
     | exact ih1 _ _ _ _
     | exact LeO.none _
     | refine LeO.ite ?_ ?_
     | refine LeO.bind ?_ (fun _ => ?_)
theorem sl_Cc.mono : ∀ a0 k, LeO (sl_Cc.f k a0) (sl_Cc.f (k + 1) a0) := by
 intro a0 k
 obtain ⟨ih0, ih1⟩ := sl_Cc.mono_l k
 unfold sl_Cc.f
 repeat' first
  | (with_reducible exact ih0 _ _ _ _ _)
  | (with_reducible exact ih1 _ _ _ _)
  | (with_reducible exact LeO.refl _)
  | (with_reducible exact LeO.none _)
  | (with_reducible refine LeO.ite ?_ ?_)
  | (with_reducible refine LeO.bind ?_ (fun _ => ?_))
  | exact ih0 _ _ _ _ _
  | exact ih1 _ _ _ _
  | exact LeO.none _
  | refine LeO.ite ?_ ?_
  | refine LeO.bind ?_ (fun _ => ?_)
set_option maxHeartbeats 8000000 in
set_option maxRecDepth 100000 in
theorem sl_Cc.calls (k : Nat) (A0 : Option Addr) (c0 : Nat) (l0 : List (List Int)) (r : List Int) (w : World) (hr0 : Kd.C (Kd.slice 3 (Kd.int .i64)) w A0 l0.length l0) (hc0 : l0.length ≤ c0) (h : sl_Cc.f k l0 = some r) :
 Calls Try.prog 28 #[.slice A0 l0.length c0] w fun e w' => ∃ v0_ : Value, e = .returned (v0_) ∧ Kd.R (Kd.int .i64) 3 w' w.heap.size (fun _ => True) v0_ r ∧ Below w.heap.size w w' := by
 have HR0 := Aside0.mk hr0
 have HC0 := Aside0.mk hc0
 clear hr0 hc0
 have HB := Aside0.mk (Below.refl w.heap.size w)
 have H : (sl_Cc.l0 k l0 0 l0 (l0.length : Int) 0) = some r := h
 clear h
 have H' := Aside0.mk H
 clear H
 go_enter Try.func28, Try.ntmps28
 go_wp2
 go_loopg [3, 11] k (fun kq v3 v11 w' => ∃ (x3_1 : Int) (x11_1 : Int), v3 = .int .i64 x3_1 ∧ v11 = .int .i64 x11_1 ∧ Aside0 (sl_Cc.l0 kq l0 x3_1 l0 (l0.length : Int) x11_1 = some r) ∧ Aside0 (kq ≤ k) ∧ Aside0 (Below w.heap.size w w'))
 case atStart => exact ⟨(0), (0), (zs), (zs), H', ⟨Nat.le_refl _⟩, ⟨zh0 HB.out⟩⟩
 case round =>
  clear H'
  obtain ⟨x3_1, x11_1, rfl, rfl, HA, HK1, HB⟩ := hrel
  cases gk with
  | zero => exact absurd HA.out (by simp [sl_Cc.l0])
  | succ k1 =>
    have H := HA.out
    clear HA
    simp only [sl_Cc.l0] at H
    by_cases c2 : x11_1 < (l0.length : Int)
    · rw [if_pos c2] at H
      have c2b0 : decide (x11_1 < (l0.length : Int)) = true := decide_eq_true c2
      clear c2
      by_cases c3 : 0 ≤ x11_1
      · rw [if_pos c3] at H
        have c3b0 : decide (0 ≤ x11_1) = true := decide_eq_true c3
        clear c3
        by_cases c4 : x11_1 < (l0.length : Int)
        · rw [if_pos c4] at H
          have c4b0 : decide (x11_1 < (l0.length : Int)) = true := decide_eq_true c4
          clear c4
          by_cases c5 : (wrap64 (x3_1 + ((rd_L2 l0 x11_1).length : Int))) < 0
          · rw [if_pos c5] at H
            exact absurd H (by simp)
          · rw [if_neg c5] at H
            have c5b0 : decide ((wrap64 (x3_1 + ((rd_L2 l0 x11_1).length : Int))) < 0) = false := decide_eq_false c5
            clear c5
            have H' := Aside0.mk H
            clear H
            have p107 : 0 ≤ (x11_1 : Int) := zd
            have q107 : x11_1 < (l0.length : Int) := zd
            obtain ⟨ad107, A107_0, c107_0, e107, hx107_0, hl107_0, hi107_0⟩ := at_L2 HR0.out x11_1 p107 q107
            cases e107
            replace hx107_0 := pw_cell_below HB.out hx107_0
            have HR107_0 := Aside0.mk hi107_0
            have HC107_0 := Aside0.mk hl107_0
            clear hi107_0 hl107_0
            replace p107 := eq_true p107
            replace q107 := eq_true q107
            go_wp2
            go_roundg k1
            case measure => have := HK1.out; omega
            case rel => exact ⟨(wrap64 (x3_1 + ((rd_L2 l0 x11_1).length : Int))), (wrap64 (x11_1 + 1)), (zs), (zs), H', ⟨by have := HK1.out; omega⟩, ⟨zh0 HB.out⟩⟩
        · rw [if_neg c4] at H
          exact absurd H (by simp)
      · rw [if_neg c3] at H
        exact absurd H (by simp)
    · rw [if_neg c2] at H
      have c2b0 : decide (x11_1 < (l0.length : Int)) = false := decide_eq_false c2
      clear c2
      replace H := Option.bind_eq_some_iff.mp H
      obtain ⟨t108, A60, H⟩ := H
      replace H : (sl_Cc.l1 k1 t108 l0 (l0.length : Int) 0) = some r := H
      have A6 := Aside0.mk A60
      clear A60
      have H' := Aside0.mk H
      clear H
      go_wp2_with (first | ((with_reducible refine gate_callee (f := 49) rfl ?_); refine zgl (some 24) Try.func49 #[.slice none 0 0, .int .i64 x3_1] ?_; (with_reducible refine (GGrow.calls x3_1 t108 _ A6.out).mono ?_); rintro e w7 ⟨v109, rfl, ho0, hb⟩; refine ⟨_, rfl, ?_⟩; have HO110 := Aside0.mk (Kd.R_lower ho0 (below_size (zh0 HB.out))); replace HB := Aside0.mk (below_step (zh0 HB.out) hb); (try clear hb); (try clear hb2); (try clear hk); (try clear hi); (try clear ho0)))
      go_loopg [6, 27] k1 (fun kq v6 v27 w' => ∃ (x6_2 : List Int) (x27_2 : Int), v27 = .int .i64 x27_2 ∧ Aside0 (sl_Cc.l1 kq x6_2 l0 (l0.length : Int) x27_2 = some r) ∧ Aside0 (kq ≤ k1) ∧ Aside0 (Kd.R (Kd.int .i64) 3 w' w.heap.size (fun _ => True) v6 x6_2) ∧ Aside0 (Below w.heap.size w w'))
      case atStart => exact ⟨(t108), (0), (zs), H', ⟨Nat.le_refl _⟩, ⟨zr HO110.out⟩, ⟨zh0 HB.out⟩⟩
      case round =>
       clear H'
       (try clear c1); (try clear p1)
       (try clear q1); (try clear hx1)
       (try clear c2); (try clear c2b0)
       (try clear p2); (try clear c3)
       (try clear c3b0); (try clear c4)
       (try clear c4b0); (try clear c5)
       (try clear c5b0); (try clear p6)
       (try clear hx107_0); (try clear p107); (try clear q107)
       obtain ⟨x6_2, x27_2, rfl, HA, HK2, HO_6, HB⟩ := hrel
       cases gk with
       | zero => exact absurd HA.out (by simp [sl_Cc.l1])
       | succ k2 =>
         have H := HA.out
         clear HA
         simp only [sl_Cc.l1] at H
         by_cases c8 : x27_2 < (l0.length : Int)
         · rw [if_pos c8] at H
           have c8b0 : decide (x27_2 < (l0.length : Int)) = true := decide_eq_true c8
           clear c8
           by_cases c9 : 0 ≤ x27_2
           · rw [if_pos c9] at H
             have c9b0 : decide (0 ≤ x27_2) = true := decide_eq_true c9
             clear c9
             by_cases c10 : x27_2 < (l0.length : Int)
             · rw [if_pos c10] at H
               have c10b0 : decide (x27_2 < (l0.length : Int)) = true := decide_eq_true c10
               clear c10
               by_cases c11 : x6_2.length + (rd_L2 l0 x27_2).length < 17592186044416
               · rw [if_pos c11] at H
                 have LMc11 := Aside0.mk c11
                 clear c11
                 obtain ⟨y112, hy112⟩ : ∃ y_ : List Int, y_ = (x6_2 ++ (rd_L2 l0 x27_2)) := ⟨_, rfl⟩
                 replace H : (sl_Cc.l1 k2 y112 l0 (l0.length : Int) (wrap64 (x27_2 + 1))) = some r := by first | (rw [hy112]; with_reducible exact H) | (have H2_ := (Option.bind_some _ _).symm.trans H; rw [hy112]; with_reducible exact H2_) | (have H2_ := (Option.bind_some _ _).symm.trans H; with_reducible exact H2_) | with_reducible exact H | (rw [hy112]; exact H) | exact H
                 have Ny112 := Aside0.mk hy112
                 clear hy112
                 have H' := Aside0.mk H
                 clear H
                 have p111 : 0 ≤ (x27_2 : Int) := zd
                 have q111 : x27_2 < (l0.length : Int) := zd
                 obtain ⟨ad111, A111_0, c111_0, e111, hx111_0, hl111_0, hi111_0⟩ := at_L2 HR0.out x27_2 p111 q111
                 cases e111
                 replace hx111_0 := pw_cell_below HB.out hx111_0
                 have HR111_0 := Aside0.mk hi111_0
                 have HC111_0 := Aside0.mk hl111_0
                 clear hi111_0 hl111_0
                 replace p111 := eq_true p111
                 replace q111 := eq_true q111
                 go_wp2_with (first | ((with_reducible refine gate_builtin (b := .append) (xs := #[.tmp 31, .tmp 32]) rfl ?_); at_builtin; refine Kd.R_append_rows (Kd.int .i64) (w0 := w) w.heap.size rfl (.tmp 31) (.tmp 32) 22 3 (.int .i64 0) 8 rfl Try.underlying22 info3 rfl (by decide) (by omega) u6 x6_2 (rd_L2 l0 x27_2) _ _ _ (fun _ => True) (fun _ => False) rfl rfl ?aO ?aR (fun _ _ h => h) (fun _ h => h.elim) ?aF ?aB ?aS ?aL ?_; (case aR => repeat (first | exact (Kd.C_below HR111_0.out HB.out) | (with_reducible refine Kd.C_alloc ?_ _) | (with_reducible refine Kd.C_drewN ?_ _) | (with_reducible refine Kd.C_drew ?_))); (case aB => exact (zh0 HB.out)); (case aF => exact (fun _ _ => trivial)); (case aO => exact (zr HO_6.out)); (case aS => exact (below_size (zh0 HB.out))); (case aL => have := LMc11.out; omega); intro v113 w12 ho hb hg hat; rw [← Ny112.out] at ho; replace HB := Aside0.mk (hb); have HO114 := Aside0.mk (ho); (try clear HO_6); clear ho hb hg hat))
                 go_roundg k2
                 case measure => have := HK1.out; have := HK2.out; omega
                 case rel => exact ⟨(y112), (wrap64 (x27_2 + 1)), (zs), H', ⟨by have := HK1.out; have := HK2.out; omega⟩, ⟨zr HO114.out⟩, ⟨zh0 HB.out⟩⟩
               · rw [if_neg c11] at H
                 exact absurd H (by simp)
             · rw [if_neg c10] at H
               exact absurd H (by simp)
           · rw [if_neg c9] at H
             exact absurd H (by simp)
         · rw [if_neg c8] at H
           have c8b0 : decide (x27_2 < (l0.length : Int)) = false := decide_eq_false c8
           clear c8
           obtain rfl := Option.some.inj H
           go_wp2
           go_ret
           exact ⟨_, ze, zr HO_6.out, zh0 HB.out⟩

/-! ### cards_odd: function 30 -/
def cards_odd.f (a0 : Int) : Option (Bool) := if a0 < 0 then (some true) else (some (decide (a0 > 65535)))
set_option maxHeartbeats 8000000 in
set_option maxRecDepth 100000 in
theorem cards_odd.calls (a0 : Int) (r : Bool) (w : World) (h : cards_odd.f a0 = some r) :
 Calls Try.prog 30 #[.int .i64 a0] w fun e w' => e = .returned (.bool r) ∧ Drawn0 w w' := by
 have H : (if a0 < 0 then (some true) else (some (decide (a0 > 65535)))) = some r := h
 clear h
 by_cases c2 : a0 < 0
 · rw [if_pos c2] at H
   have c2b0 : decide (a0 < 0) = true := decide_eq_true c2
   clear c2
   obtain rfl := Option.some.inj H
   go_enter Try.func30, Try.ntmps30
   go_wp2
   go_ret
   exact ⟨by first | rfl | (simp; done) | (simp [*]; done), by repeat (first | exact Drawn0.refl _ | apply Drawn0.step)⟩
 · rw [if_neg c2] at H
   have c2b0 : decide (a0 < 0) = false := decide_eq_false c2
   clear c2
   obtain rfl := Option.some.inj H
   go_enter Try.func30, Try.ntmps30
   go_wp2
   go_ret
   exact ⟨by first | rfl | (simp; done) | (simp [*]; done), by repeat (first | exact Drawn0.refl _ | apply Drawn0.step)⟩

/-! ### cards_head: function 31 -/
def cards_head.f (a0_0 : Int) (a0_1 : Int) (a0_2 : Int) (a0_3 : Int) (l0_4 : List Int) (a0_5 : Int) (a0_6 : Int) (l0_7 : List (S48)) (a0_8 : Int) (a1 : Int) : Option (Bool) := if a0_1 = 1 then (if a0_2 ≥ 1 then (if a0_2 ≤ 200 then (if a0_3 ≥ 0 then (some (decide (a0_3 ≤ (wrap64 (128 * a1))))) else (some false)) else (some false)) else (some false)) else (if a0_1 = 2 then (if a0_2 ≥ 1 then (if a0_2 ≤ 200 then (if a0_3 ≥ 0 then (some (decide (a0_3 ≤ (wrap64 (128 * a1))))) else (some false)) else (some false)) else (some false)) else (some false))
set_option maxHeartbeats 8000000 in
set_option maxRecDepth 100000 in
theorem cards_head.calls (a0_0 : Int) (a0_1 : Int) (a0_2 : Int) (a0_3 : Int) (A0_4 : Option Addr) (c0_4 : Nat) (l0_4 : List Int) (a0_5 : Int) (a0_6 : Int) (A0_7 : Option Addr) (c0_7 : Nat) (l0_7 : List (S48)) (a0_8 : Int) (a1 : Int) (r : Bool) (w : World) (hr0_4 : Kd.C (Kd.int .i64) w A0_4 l0_4.length l0_4) (hc0_4 : l0_4.length ≤ c0_4) (hr0_7 : Kd.C k48 w A0_7 l0_7.length l0_7) (hc0_7 : l0_7.length ≤ c0_7) (h : cards_head.f a0_0 a0_1 a0_2 a0_3 l0_4 a0_5 a0_6 l0_7 a0_8 a1 = some r) :
 Calls Try.prog 31 #[.agg #[.int .i64 a0_0, .int .i64 a0_1, .int .i64 a0_2, .int .i64 a0_3, .slice A0_4 l0_4.length c0_4, .int .i64 a0_5, .int .i64 a0_6, .slice A0_7 l0_7.length c0_7, .int .i64 a0_8], .int .i64 a1] w fun e w' => e = .returned (.bool r) ∧ Below w.heap.size w w' := by
 have hu25 := Try.underlying25
 have HR0_4 := Aside0.mk hr0_4
 have HC0_4 := Aside0.mk hc0_4
 clear hr0_4 hc0_4
 have HR0_7 := Aside0.mk hr0_7
 have HC0_7 := Aside0.mk hc0_7
 clear hr0_7 hc0_7
 have HB := Aside0.mk (Below.refl w.heap.size w)
 have H : (if a0_1 = 1 then (if a0_2 ≥ 1 then (if a0_2 ≤ 200 then (if a0_3 ≥ 0 then (some (decide (a0_3 ≤ (wrap64 (128 * a1))))) else (some false)) else (some false)) else (some false)) else (if a0_1 = 2 then (if a0_2 ≥ 1 then (if a0_2 ≤ 200 then (if a0_3 ≥ 0 then (some (decide (a0_3 ≤ (wrap64 (128 * a1))))) else (some false)) else (some false)) else (some false)) else (some false))) = some r := h
 clear h
 by_cases c3 : a0_1 = 1
 all_goals (first
  | (skip
     rw [if_pos c3] at H
     have c3b0 : (a0_1 == 1) = true := beq_iff_eq.mpr c3
     have c3b1 : (a0_1 != 1) = false := bne_eq_false_iff_eq.mpr c3
     clear c3
     by_cases c4 : a0_2 ≥ 1
     all_goals (first
      | (skip
         rw [if_pos c4] at H
         have c4b0 : decide (1 ≤ a0_2) = true := decide_eq_true c4
         clear c4
         by_cases c5 : a0_2 ≤ 200
         all_goals (first
          | (skip
             rw [if_pos c5] at H
             have c5b0 : decide (a0_2 ≤ 200) = true := decide_eq_true c5
             clear c5
             by_cases c6 : a0_3 ≥ 0
             all_goals (first
              | (skip
                 rw [if_pos c6] at H
                 have c6b0 : decide (0 ≤ a0_3) = true := decide_eq_true c6
                 clear c6
                 obtain rfl := Option.some.inj H
                 have C0_ : True := trivial
                 have S0_ : True := trivial)
              | (skip
                 rw [if_neg c6] at H
                 have c6b0 : decide (0 ≤ a0_3) = false := decide_eq_false c6
                 clear c6
                 obtain rfl := Option.some.inj H
                 have C0_ : True := trivial
                 have S0_ : True := trivial)))
          | (skip
             rw [if_neg c5] at H
             have c5b0 : decide (a0_2 ≤ 200) = false := decide_eq_false c5
             clear c5
             obtain rfl := Option.some.inj H
             have C0_ : True := trivial
             have S0_ : True := trivial)))
      | (skip
         rw [if_neg c4] at H
         have c4b0 : decide (1 ≤ a0_2) = false := decide_eq_false c4
         clear c4
         obtain rfl := Option.some.inj H
         have C0_ : True := trivial
         have S0_ : True := trivial)))
  | (skip
     rw [if_neg c3] at H
     have c3b0 : (a0_1 == 1) = false := beq_eq_false_iff_ne.mpr c3
     have c3b1 : (a0_1 != 1) = true := bne_iff_ne.mpr c3
     by_cases c15 : a0_1 = 2
     all_goals (first
      | (skip
         rw [if_pos c15] at H
         have c15b0 : (a0_1 == 2) = true := beq_iff_eq.mpr c15
         have c15b1 : (a0_1 != 2) = false := bne_eq_false_iff_eq.mpr c15
         clear c15
         by_cases c16 : a0_2 ≥ 1
         all_goals (first
          | (skip
             rw [if_pos c16] at H
             have c16b0 : decide (1 ≤ a0_2) = true := decide_eq_true c16
             clear c16
             by_cases c17 : a0_2 ≤ 200
             all_goals (first
              | (skip
                 rw [if_pos c17] at H
                 have c17b0 : decide (a0_2 ≤ 200) = true := decide_eq_true c17
                 clear c17
                 by_cases c18 : a0_3 ≥ 0
                 all_goals (first
                  | (skip
                     rw [if_pos c18] at H
                     have c18b0 : decide (0 ≤ a0_3) = true := decide_eq_true c18
                     clear c18
                     obtain rfl := Option.some.inj H
                     have C0_ : True := trivial
                     have S0_ : True := trivial)
                  | (skip
                     rw [if_neg c18] at H
                     have c18b0 : decide (0 ≤ a0_3) = false := decide_eq_false c18
                     clear c18
                     obtain rfl := Option.some.inj H
                     have C0_ : True := trivial
                     have S0_ : True := trivial)))
              | (skip
                 rw [if_neg c17] at H
                 have c17b0 : decide (a0_2 ≤ 200) = false := decide_eq_false c17
                 clear c17
                 obtain rfl := Option.some.inj H
                 have C0_ : True := trivial
                 have S0_ : True := trivial)))
          | (skip
             rw [if_neg c16] at H
             have c16b0 : decide (1 ≤ a0_2) = false := decide_eq_false c16
             clear c16
             obtain rfl := Option.some.inj H
             have C0_ : True := trivial
             have S0_ : True := trivial)))
      | (skip
         rw [if_neg c15] at H
         have c15b0 : (a0_1 == 2) = false := beq_eq_false_iff_ne.mpr c15
         have c15b1 : (a0_1 != 2) = true := bne_iff_ne.mpr c15
         obtain rfl := Option.some.inj H
         have C0_ : True := trivial
         have S0_ : True := trivial))))
 all_goals (
  first
  | (have _ := C0_
     go_enter Try.func31, Try.ntmps31
     go_wp2_with (first | ((with_reducible refine gate_dst (N := 2) rfl ?_); refine zbx (N := 2) (cs := #[.int .i64 a0_0, .int .i64 a0_1, .int .i64 a0_2, .int .i64 a0_3, .slice A0_4 l0_4.length c0_4, .int .i64 a0_5, .int .i64 a0_6, .slice A0_7 l0_7.length c0_7, .int .i64 a0_8]) (t := 25) ?_; intro gb115 hg wq2 hbox hb; have BK115 := Aside0.mk (hbox); have GW115 := Aside0.mk ((by rw [hg]; exact (below_size (zh0 HB.out)) : w.heap.size ≤ gb115)); have GE115 := GW115; replace HB := Aside0.mk (below_step (zh0 HB.out) hb); clear hb hbox hg; obtain ⟨hczq2_0, hczq2_1, hczq2_2, hczq2_3, hczq2_4, hczq2_5, hczq2_6, hczq2_7, hczq2_8⟩ := cells9 BK115.out; obtain ⟨hfzq2_0, hfzq2_1, hfzq2_2, hfzq2_3, hfzq2_4, hfzq2_5, hfzq2_6, hfzq2_7, hfzq2_8⟩ := frozen9 BK115.out))
     go_ret
     exact ⟨ze, zh1 HB.out GE115.out⟩))

end Go.Proofs.Ytgigoogekimgkaa.GCrd
