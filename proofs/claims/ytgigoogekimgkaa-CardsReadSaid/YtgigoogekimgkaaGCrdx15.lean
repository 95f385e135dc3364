/- printed for this claim by gprint.py, a program of this session, that drives the kit's printer. -/
import Derived.Test.YtgigoogekimgkaaGCrdx0
import Derived.Test.YtgigoogekimgkaaZ
namespace Go.Proofs.Ytgigoogekimgkaa.GCrd
open Go.RowKit Go.Proofs.YtgigoogekimgkaaW.PrintWords Go.Proofs.YtgigoogekimgkaaW.PrintLast Go.Proofs.YtgigoogekimgkaaW.PrintMore
attribute [local go_sem] max2_int min2_int max_two min_two max_three min_three max_four min_four   -- for this text's walks alone
set_option linter.unusedVariables false
set_option linter.unusedSimpArgs false

/-! ### r1_Size: function 55 -/
def r1_Size.l0 : Nat → List Int → Int → Int → Option (Int)
 | 0, _, _, _ => none
 | k + 1, x0, x3, x4 => if x4 < (x0.length : Int) then (if 0 ≤ x4 then (if (rd x0 x4) = 1 then (r1_Size.l0 k x0 (wrap64 (x3 + (rd x0 x4))) (wrap64 (x4 + 1))) else (if (rd x0 x4) = 2 then (r1_Size.l0 k x0 (wrap64 (x3 + (rd x0 x4))) (wrap64 (x4 + 1))) else (if (rd x0 x4) = 4 then (r1_Size.l0 k x0 (wrap64 (x3 + (rd x0 x4))) (wrap64 (x4 + 1))) else (some (-1))))) else (none)) else (some x3)
def r1_Size.f (k : Nat) (l0 : List Int) : Option (Int) := r1_Size.l0 k l0 0 0
theorem r1_Size.mono_l : ∀ k, (∀ y0 y1 y2, LeO (r1_Size.l0 k y0 y1 y2) (r1_Size.l0 (k + 1) y0 y1 y2))
 | 0 => fun _ _ _ r h => by simp [r1_Size.l0] at h
 | k + 1 => by
   have ih0 := r1_Size.mono_l k
   · intro y0 y1 y2
     unfold r1_Size.l0
     repeat' first
     | (with_reducible exact ih0 _ _ _)
     | (with_reducible exact LeO.refl _)
     | (with_reducible exact LeO.none _)
     | (with_reducible refine LeO.ite ?_ ?_)
     | (with_reducible refine LeO.bind ?_ (fun _ => ?_))
     | exact ih0 _ _ _
     | exact LeO.none _
     | refine LeO.ite ?_ ?_
     | refine LeO.bind ?_ (fun _ => ?_)
theorem r1_Size.mono : ∀ a0 k, LeO (r1_Size.f k a0) (r1_Size.f (k + 1) a0) := by
 intro a0 k
 have ih0 := r1_Size.mono_l k
 unfold r1_Size.f
 repeat' first
  | (with_reducible exact ih0 _ _ _)
  | (with_reducible exact LeO.refl _)
  | (with_reducible exact LeO.none _)
  | (with_reducible refine LeO.ite ?_ ?_)
  | (with_reducible refine LeO.bind ?_ (fun _ => ?_))
  | exact ih0 _ _ _
  | exact LeO.none _
  | refine LeO.ite ?_ ?_
  | refine LeO.bind ?_ (fun _ => ?_)
set_option maxHeartbeats 8000000 in
set_option maxRecDepth 100000 in
theorem r1_Size.calls (k : Nat) (A0 : Option Addr) (c0 : Nat) (l0 : List Int) (r : Int) (w : World) (hr0 : Kd.C (Kd.int .i64) w A0 l0.length l0) (hc0 : l0.length ≤ c0) (h : r1_Size.f k l0 = some r) :
 Calls Try.prog 55 #[.slice A0 l0.length c0] w fun e w' => e = .returned (.int .i64 r) ∧ Drawn0 w w' := by
 have HR0 := Aside0.mk hr0
 have HC0 := Aside0.mk hc0
 clear hr0 hc0
 have H : (r1_Size.l0 k l0 0 0) = some r := h
 clear h
 have H' := Aside0.mk H
 clear H
 go_enter Try.func55, Try.ntmps55
 go_wp2
 go_loopg [3, 4] k (fun kq v3 v4 w' => ∃ (x3_1 : Int) (x4_1 : Int), v3 = .int .i64 x3_1 ∧ v4 = .int .i64 x4_1 ∧ Aside0 (r1_Size.l0 kq l0 x3_1 x4_1 = some r) ∧ Aside0 (kq ≤ k) ∧ Drawn0 w w')
 case atStart => exact ⟨(0), (0), (zs), (zs), H', ⟨Nat.le_refl _⟩, by repeat (first | exact Drawn0.refl _ | apply Drawn0.step)⟩
 case round =>
  clear H'
  obtain ⟨x3_1, x4_1, rfl, rfl, HA, HK1, ⟨m1, rfl⟩⟩ := hrel
  cases gk with
  | zero => exact absurd HA.out (by simp [r1_Size.l0])
  | succ k1 =>
    have H := HA.out
    clear HA
    simp only [r1_Size.l0] at H
    by_cases c2 : x4_1 < (l0.length : Int)
    · rw [if_pos c2] at H
      have c2b0 : decide (x4_1 < (l0.length : Int)) = true := decide_eq_true c2
      clear c2
      by_cases c3 : 0 ≤ x4_1
      · rw [if_pos c3] at H
        have c3b0 : decide (0 ≤ x4_1) = true := decide_eq_true c3
        clear c3
        by_cases c4 : (rd l0 x4_1) = 1
        · rw [if_pos c4] at H
          have c4b0 : ((rd l0 x4_1) == 1) = true := beq_iff_eq.mpr c4
          have c4b1 : ((rd l0 x4_1) != 1) = false := bne_eq_false_iff_eq.mpr c4
          clear c4
          have H' := Aside0.mk H
          clear H
          have p344 : 0 ≤ (x4_1 : Int) := zd
          have q344 : x4_1 < (l0.length : Int) := zd
          obtain ⟨ad344, e344, hx344_0⟩ := Kd.at_int HR0.out x4_1 p344 q344
          cases e344
          replace p344 := eq_true p344
          replace q344 := eq_true q344
          have p345 : 0 ≤ (x4_1 : Int) := zd
          have q345 : x4_1 < (l0.length : Int) := zd
          obtain ⟨ad345, e345, hx345_0⟩ := Kd.at_int HR0.out x4_1 p345 q345
          obtain rfl : ad344 = ad345 := (by injection e345)
          replace p345 := eq_true p345
          replace q345 := eq_true q345
          go_wp2
          go_roundg k1
          case measure => have := HK1.out; omega
          case rel => exact ⟨(wrap64 (x3_1 + (rd l0 x4_1))), (wrap64 (x4_1 + 1)), (zs), (zs), H', ⟨by have := HK1.out; omega⟩, by repeat (first | exact Drawn0.refl _ | apply Drawn0.step)⟩
        · rw [if_neg c4] at H
          have c4b0 : ((rd l0 x4_1) == 1) = false := beq_eq_false_iff_ne.mpr c4
          have c4b1 : ((rd l0 x4_1) != 1) = true := bne_iff_ne.mpr c4
          by_cases c5 : (rd l0 x4_1) = 2
          · rw [if_pos c5] at H
            have c5b0 : ((rd l0 x4_1) == 2) = true := beq_iff_eq.mpr c5
            have c5b1 : ((rd l0 x4_1) != 2) = false := bne_eq_false_iff_eq.mpr c5
            clear c5
            have H' := Aside0.mk H
            clear H
            have p344 : 0 ≤ (x4_1 : Int) := zd
            have q344 : x4_1 < (l0.length : Int) := zd
            obtain ⟨ad344, e344, hx344_0⟩ := Kd.at_int HR0.out x4_1 p344 q344
            cases e344
            replace p344 := eq_true p344
            replace q344 := eq_true q344
            have p346 : 0 ≤ (x4_1 : Int) := zd
            have q346 : x4_1 < (l0.length : Int) := zd
            obtain ⟨ad346, e346, hx346_0⟩ := Kd.at_int HR0.out x4_1 p346 q346
            obtain rfl : ad344 = ad346 := (by injection e346)
            replace p346 := eq_true p346
            replace q346 := eq_true q346
            have p347 : 0 ≤ (x4_1 : Int) := zd
            have q347 : x4_1 < (l0.length : Int) := zd
            obtain ⟨ad347, e347, hx347_0⟩ := Kd.at_int HR0.out x4_1 p347 q347
            obtain rfl : ad344 = ad347 := (by injection e347)
            replace p347 := eq_true p347
            replace q347 := eq_true q347
            go_wp2
            go_roundg k1
            case measure => have := HK1.out; omega
            case rel => exact ⟨(wrap64 (x3_1 + (rd l0 x4_1))), (wrap64 (x4_1 + 1)), (zs), (zs), H', ⟨by have := HK1.out; omega⟩, by repeat (first | exact Drawn0.refl _ | apply Drawn0.step)⟩
          · rw [if_neg c5] at H
            have c5b0 : ((rd l0 x4_1) == 2) = false := beq_eq_false_iff_ne.mpr c5
            have c5b1 : ((rd l0 x4_1) != 2) = true := bne_iff_ne.mpr c5
            by_cases c6 : (rd l0 x4_1) = 4
            · rw [if_pos c6] at H
              have c6b0 : ((rd l0 x4_1) == 4) = true := beq_iff_eq.mpr c6
              have c6b1 : ((rd l0 x4_1) != 4) = false := bne_eq_false_iff_eq.mpr c6
              clear c6
              have H' := Aside0.mk H
              clear H
              have p344 : 0 ≤ (x4_1 : Int) := zd
              have q344 : x4_1 < (l0.length : Int) := zd
              obtain ⟨ad344, e344, hx344_0⟩ := Kd.at_int HR0.out x4_1 p344 q344
              cases e344
              replace p344 := eq_true p344
              replace q344 := eq_true q344
              have p346 : 0 ≤ (x4_1 : Int) := zd
              have q346 : x4_1 < (l0.length : Int) := zd
              obtain ⟨ad346, e346, hx346_0⟩ := Kd.at_int HR0.out x4_1 p346 q346
              obtain rfl : ad344 = ad346 := (by injection e346)
              replace p346 := eq_true p346
              replace q346 := eq_true q346
              have p348 : 0 ≤ (x4_1 : Int) := zd
              have q348 : x4_1 < (l0.length : Int) := zd
              obtain ⟨ad348, e348, hx348_0⟩ := Kd.at_int HR0.out x4_1 p348 q348
              obtain rfl : ad344 = ad348 := (by injection e348)
              replace p348 := eq_true p348
              replace q348 := eq_true q348
              have p349 : 0 ≤ (x4_1 : Int) := zd
              have q349 : x4_1 < (l0.length : Int) := zd
              obtain ⟨ad349, e349, hx349_0⟩ := Kd.at_int HR0.out x4_1 p349 q349
              obtain rfl : ad344 = ad349 := (by injection e349)
              replace p349 := eq_true p349
              replace q349 := eq_true q349
              go_wp2
              go_roundg k1
              case measure => have := HK1.out; omega
              case rel => exact ⟨(wrap64 (x3_1 + (rd l0 x4_1))), (wrap64 (x4_1 + 1)), (zs), (zs), H', ⟨by have := HK1.out; omega⟩, by repeat (first | exact Drawn0.refl _ | apply Drawn0.step)⟩
            · rw [if_neg c6] at H
              have c6b0 : ((rd l0 x4_1) == 4) = false := beq_eq_false_iff_ne.mpr c6
              have c6b1 : ((rd l0 x4_1) != 4) = true := bne_iff_ne.mpr c6
              obtain rfl := Option.some.inj H
              have p344 : 0 ≤ (x4_1 : Int) := zd
              have q344 : x4_1 < (l0.length : Int) := zd
              obtain ⟨ad344, e344, hx344_0⟩ := Kd.at_int HR0.out x4_1 p344 q344
              cases e344
              replace p344 := eq_true p344
              replace q344 := eq_true q344
              have p346 : 0 ≤ (x4_1 : Int) := zd
              have q346 : x4_1 < (l0.length : Int) := zd
              obtain ⟨ad346, e346, hx346_0⟩ := Kd.at_int HR0.out x4_1 p346 q346
              obtain rfl : ad344 = ad346 := (by injection e346)
              replace p346 := eq_true p346
              replace q346 := eq_true q346
              have p348 : 0 ≤ (x4_1 : Int) := zd
              have q348 : x4_1 < (l0.length : Int) := zd
              obtain ⟨ad348, e348, hx348_0⟩ := Kd.at_int HR0.out x4_1 p348 q348
              obtain rfl : ad344 = ad348 := (by injection e348)
              replace p348 := eq_true p348
              replace q348 := eq_true q348
              go_wp2
              go_ret
              exact ⟨by first | rfl | (simp; done) | (simp [*]; done), by repeat (first | exact Drawn0.refl _ | apply Drawn0.step)⟩
      · rw [if_neg c3] at H
        exact absurd H (by simp)
    · rw [if_neg c2] at H
      have c2b0 : decide (x4_1 < (l0.length : Int)) = false := decide_eq_false c2
      clear c2
      obtain rfl := Option.some.inj H
      go_wp2
      go_ret
      exact ⟨by first | rfl | (simp; done) | (simp [*]; done), by repeat (first | exact Drawn0.refl _ | apply Drawn0.step)⟩

/-! ### r1_most: function 62 -/
def r1_most.f (a0 : Int) : Option (Int) := if a0 = 1 then (some 255) else (if a0 = 2 then (some 65535) else (some 4294967295))
set_option maxHeartbeats 8000000 in
set_option maxRecDepth 100000 in
theorem r1_most.calls (a0 : Int) (r : Int) (w : World) (h : r1_most.f a0 = some r) :
 Calls Try.prog 62 #[.int .i64 a0] w fun e w' => e = .returned (.int .i64 r) ∧ Drawn0 w w' := by
 have H : (if a0 = 1 then (some 255) else (if a0 = 2 then (some 65535) else (some 4294967295))) = some r := h
 clear h
 by_cases c2 : a0 = 1
 · rw [if_pos c2] at H
   have c2b0 : (a0 == 1) = true := beq_iff_eq.mpr c2
   have c2b1 : (a0 != 1) = false := bne_eq_false_iff_eq.mpr c2
   clear c2
   obtain rfl := Option.some.inj H
   go_enter Try.func62, Try.ntmps62
   go_wp2
   go_ret
   exact ⟨by first | rfl | (simp; done) | (simp [*]; done), by repeat (first | exact Drawn0.refl _ | apply Drawn0.step)⟩
 · rw [if_neg c2] at H
   have c2b0 : (a0 == 1) = false := beq_eq_false_iff_ne.mpr c2
   have c2b1 : (a0 != 1) = true := bne_iff_ne.mpr c2
   by_cases c3 : a0 = 2
   · rw [if_pos c3] at H
     have c3b0 : (a0 == 2) = true := beq_iff_eq.mpr c3
     have c3b1 : (a0 != 2) = false := bne_eq_false_iff_eq.mpr c3
     clear c3
     obtain rfl := Option.some.inj H
     go_enter Try.func62, Try.ntmps62
     go_wp2
     go_ret
     exact ⟨by first | rfl | (simp; done) | (simp [*]; done), by repeat (first | exact Drawn0.refl _ | apply Drawn0.step)⟩
   · rw [if_neg c3] at H
     have c3b0 : (a0 == 2) = false := beq_eq_false_iff_ne.mpr c3
     have c3b1 : (a0 != 2) = true := bne_iff_ne.mpr c3
     obtain rfl := Option.some.inj H
     go_enter Try.func62, Try.ntmps62
     go_wp2
     go_ret
     exact ⟨by first | rfl | (simp; done) | (simp [*]; done), by repeat (first | exact Drawn0.refl _ | apply Drawn0.step)⟩

/-! ### r1_Write: function 48 -/
mutual
def r1_Write.j0 : Nat → List Int → List Int → Bool → Option (ByteArray × Int)
 | 0, _, _, _ => none
 | k + 1, x0, x1, x19 => if x19 = true then (some ((⟨#[]⟩ : ByteArray), 1)) else (r1_Write.l0 k x0 x1 ([] : List Int) 0)
def r1_Write.l0 : Nat → List Int → List Int → List Int → Int → Option (ByteArray × Int)
 | 0, _, _, _, _ => none
 | k + 1, x0, x1, x6, x7 => if x7 < (x0.length : Int) then (if 0 ≤ x7 then (if x7 < (x1.length : Int) then (if (rd x1 x7) < 0 then (r1_Write.j2 k x0 x1 x6 x7 true) else ((r1_most.f (rd x0 x7)).bind fun t354 => (r1_Write.j2 k x0 x1 x6 x7 (decide ((rd x1 x7) > t354))))) else (none)) else (none)) else (some (strOfNums x6, 0))
def r1_Write.j2 : Nat → List Int → List Int → List Int → Int → Bool → Option (ByteArray × Int)
 | 0, _, _, _, _, _ => none
 | k + 1, x0, x1, x6, x7, x42 => if x42 = true then (some ((⟨#[]⟩ : ByteArray), 3)) else (if 0 ≤ x7 then (if x7 < (x1.length : Int) then (r1_Write.l1 k x0 x1 x6 x7 (rd x1 x7) 0) else (none)) else (none))
def r1_Write.l1 : Nat → List Int → List Int → List Int → Int → Int → Int → Option (ByteArray × Int)
 | 0, _, _, _, _, _, _ => none
 | k + 1, x0, x1, x6, x7, x8, x9 => if 0 ≤ x7 then (if x7 < (x0.length : Int) then (if x9 < (rd x0 x7) then (if x6.length < 140737488355328 then (r1_Write.l1 k x0 x1 (x6 ++ [(Int.tmod x8 256) % 256]) x7 (wrap64 (Int.tdiv x8 256)) (wrap64 (x9 + 1))) else (none)) else (r1_Write.l0 k x0 x1 x6 (wrap64 (x7 + 1)))) else (none)) else (none)
end
def r1_Write.f (k : Nat) (l0 : List Int) (l1 : List Int) : Option (ByteArray × Int) := (r1_Size.f k l0).bind fun t350 => (if t350 < 0 then (r1_Write.j0 k l0 l1 true) else (r1_Write.j0 k l0 l1 ((l0.length : Int) != (l1.length : Int))))
theorem r1_Write.mono_l : ∀ k, (∀ y0 y1 y2, LeO (r1_Write.j0 k y0 y1 y2) (r1_Write.j0 (k + 1) y0 y1 y2)) ∧ (∀ y0 y1 y2 y3, LeO (r1_Write.l0 k y0 y1 y2 y3) (r1_Write.l0 (k + 1) y0 y1 y2 y3)) ∧ (∀ y0 y1 y2 y3 y4, LeO (r1_Write.j2 k y0 y1 y2 y3 y4) (r1_Write.j2 (k + 1) y0 y1 y2 y3 y4)) ∧ (∀ y0 y1 y2 y3 y4 y5, LeO (r1_Write.l1 k y0 y1 y2 y3 y4 y5) (r1_Write.l1 (k + 1) y0 y1 y2 y3 y4 y5))
 | 0 => ⟨fun _ _ _ r h => by simp [r1_Write.j0] at h, fun _ _ _ _ r h => by simp [r1_Write.l0] at h, fun _ _ _ _ _ r h => by simp [r1_Write.j2] at h, fun _ _ _ _ _ _ r h => by simp [r1_Write.l1] at h⟩
 | k + 1 => by
   obtain ⟨ih0, ih1, ih2, ih3⟩ := r1_Write.mono_l k
   refine ⟨?_, ?_, ?_, ?_⟩
   · intro y0 y1 y2
     unfold r1_Write.j0
     repeat' first
     | (with_reducible exact ih0 _ _ _)
     | (with_reducible exact ih1 _ _ _ _)
     | (with_reducible exact ih2 _ _ _ _ _)
     | (with_reducible exact ih3 _ _ _ _ _ _)
     | (with_reducible exact r1_Size.mono _ _)
     | (with_reducible exact LeO.refl _)
     | (with_reducible exact LeO.none _)
     | (with_reducible refine LeO.ite ?_ ?_)
     | (with_reducible refine LeO.bind ?_ (fun _ => ?_))
     | exact ih0 _ _ _
     | exact ih1 _ _ _ _
     | exact ih2 _ _ _ _ _
     | exact ih3 _ _ _ _ _ _
     | exact r1_Size.mono _ _
     | exact LeO.none _
     | refine LeO.ite ?_ ?_
     | refine LeO.bind ?_ (fun _ => ?_)
   · intro y0 y1 y2 y3
     unfold r1_Write.l0
     repeat' first
     | (with_reducible exact ih0 _ _ _)
     | (with_reducible exact ih1 _ _ _ _)
     | (with_reducible exact ih2 _ _ _ _ _)
     | (with_reducible exact ih3 _ _ _ _ _ _)
     | (with_reducible exact r1_Size.mono _ _)
     | (with_reducible exact LeO.refl _)
     | (with_reducible exact LeO.none _)
     | (with_reducible refine LeO.ite ?_ ?_)
     | (with_reducible refine LeO.bind ?_ (fun _ => ?_))
     | exact ih0 _ _ _
     | exact ih1 _ _ _ _
     | exact ih2 _ _ _ _ _
     | exact ih3 _ _ _ _ _ _
     | exact r1_Size.mono _ _
     | exact LeO.none _
     | refine LeO.ite ?_ ?_
     | refine LeO.bind ?_ (fun _ => ?_)
   · intro y0 y1 y2 y3 y4
     unfold r1_Write.j2
     repeat' first
     | (with_reducible exact ih0 _ _ _)
     | (with_reducible exact ih1 _ _ _ _)
     | (with_reducible exact ih2 _ _ _ _ _)
     | (with_reducible exact ih3 _ _ _ _ _ _)
     | (with_reducible exact r1_Size.mono _ _)
     | (with_reducible exact LeO.refl _)
     | (with_reducible exact LeO.none _)
     | (with_reducible refine LeO.ite ?_ ?_)
     | (with_reducible refine LeO.bind ?_ (fun _ => ?_))
     | exact ih0 _ _ _
     | exact ih1 _ _ _ _
     | exact ih2 _ _ _ _ _
     | exact ih3 _ _ _ _ _ _
     | exact r1_Size.mono _ _
     | exact LeO.none _
     | refine LeO.ite ?_ ?_
     | refine LeO.bind ?_ (fun _ => ?_)
   · intro y0 y1 y2 y3 y4 y5
     unfold r1_Write.l1
     repeat' first
     | (with_reducible exact ih0 _ _ _)
     | (with_reducible exact ih1 _ _ _ _)
     | (with_reducible exact ih2 _ _ _ _ _)
     | (with_reducible exact ih3 _ _ _ _ _ _)
     | (with_reducible exact r1_Size.mono _ _)
     | (with_reducible exact LeO.refl _)
     | (with_reducible exact LeO.none _)
     | (with_reducible refine LeO.ite ?_ ?_)
     | (with_reducible refine LeO.bind ?_ (fun _ => ?_))
     | exact ih0 _ _ _
     | exact ih1 _ _ _ _
     | exact ih2 _ _ _ _ _
     | exact ih3 _ _ _ _ _ _
     | exact r1_Size.mono _ _
     | exact LeO.none _
     | refine LeO.ite ?_ ?_
     | refine LeO.bind ?_ (fun _ => ?_)
theorem r1_Write.mono : ∀ a0 a1 k, LeO (r1_Write.f k a0 a1) (r1_Write.f (k + 1) a0 a1) := by
 intro a0 a1 k
 obtain ⟨ih0, ih1, ih2, ih3⟩ := r1_Write.mono_l k
 unfold r1_Write.f
 repeat' first
  | (with_reducible exact ih0 _ _ _)
  | (with_reducible exact ih1 _ _ _ _)
  | (with_reducible exact ih2 _ _ _ _ _)
  | (with_reducible exact ih3 _ _ _ _ _ _)
  | (with_reducible exact r1_Size.mono _ _)
  | (with_reducible exact LeO.refl _)
  | (with_reducible exact LeO.none _)
  | (with_reducible refine LeO.ite ?_ ?_)
  | (with_reducible refine LeO.bind ?_ (fun _ => ?_))
  | exact ih0 _ _ _
  | exact ih1 _ _ _ _
  | exact ih2 _ _ _ _ _
  | exact ih3 _ _ _ _ _ _
  | exact r1_Size.mono _ _
  | exact LeO.none _
  | refine LeO.ite ?_ ?_
  | refine LeO.bind ?_ (fun _ => ?_)
set_option maxHeartbeats 8000000 in
set_option maxRecDepth 100000 in
theorem r1_Write.calls (k : Nat) (A0 : Option Addr) (c0 : Nat) (l0 : List Int) (A1 : Option Addr) (c1 : Nat) (l1 : List Int) (r1 : ByteArray) (r2 : Int) (w : World) (hr0 : Kd.C (Kd.int .i64) w A0 l0.length l0) (hc0 : l0.length ≤ c0) (hr1 : Kd.C (Kd.int .i64) w A1 l1.length l1) (hc1 : l1.length ≤ c1) (h : r1_Write.f k l0 l1 = some (r1, r2)) :
 Calls Try.prog 48 #[.slice A0 l0.length c0, .slice A1 l1.length c1] w fun e w' => e = .returned (.tuple #[.string r1, .int .i64 r2]) ∧ Below w.heap.size w w' := by
 have HR0 := Aside0.mk hr0
 have HC0 := Aside0.mk hc0
 clear hr0 hc0
 have HR1 := Aside0.mk hr1
 have HC1 := Aside0.mk hc1
 clear hr1 hc1
 have HB := Aside0.mk (Below.refl w.heap.size w)
 have H : ((r1_Size.f k l0).bind fun t350 => (if t350 < 0 then (r1_Write.j0 k l0 l1 true) else (r1_Write.j0 k l0 l1 ((l0.length : Int) != (l1.length : Int))))) = some (r1, r2) := h
 clear h
 have HC3 := Aside0.mk H
 clear H
 go_enter Try.func48, Try.ntmps48
 go_upto_region 1 with (fail)
 repeat (go_quiet (fail); go_upto_region 1 with (fail))
 go_cut [19] (fun v19 wc => ∃ (kq : Nat) (x19_2 : Bool), v19 = .bool x19_2 ∧ Aside0 (r1_Write.j0 kq l0 l1 x19_2 = some (r1, r2)) ∧ Aside0 (kq ≤ k) ∧ Aside0 (Below w.heap.size w wc))
 case first =>
  have H := HC3.out
  clear HC3
  replace H := Option.bind_eq_some_iff.mp H
  obtain ⟨t350, A40, H⟩ := H
  replace H : (if t350 < 0 then (r1_Write.j0 k l0 l1 true) else (r1_Write.j0 k l0 l1 ((l0.length : Int) != (l1.length : Int)))) = some (r1, r2) := H
  have A4 := Aside0.mk A40
  clear A40
  by_cases c5 : t350 < 0
  · rw [if_pos c5] at H
    have c5b0 : decide (t350 < 0) = true := decide_eq_true c5
    clear c5
    (first | rw [c5b0] | (simp only [i64_w, i32_w]; rw [c5b0]) | skip)
    have H' := Aside0.mk H
    clear H
    go_wp2_with (first | (go_at_call 55; (with_reducible refine (r1_Size.calls k _ _ l0 t350 _ ?side1 ?side2 A4.out).mono ?_); (case side1 => exact zc (Kd.C_below HR0.out HB.out)); (case side2 => exact HC0.out); rintro e w' ⟨rfl, ⟨nd, rfl⟩⟩; (try first | exact ⟨rfl, _, World.drewN_drewN _ _ _⟩ | exact ⟨rfl, _, Eq.trans (World.drewN_drewN _ _ _) (congrArg (World.drewN _) (Nat.add_assoc _ _ _))⟩)))
    repeat (go_quiet (first | (go_at_call 55; (with_reducible refine (r1_Size.calls k _ _ l0 t350 _ ?side1 ?side2 A4.out).mono ?_); (case side1 => exact zc (Kd.C_below HR0.out HB.out)); (case side2 => exact HC0.out); rintro e w' ⟨rfl, ⟨nd, rfl⟩⟩; (try first | exact ⟨rfl, _, World.drewN_drewN _ _ _⟩ | exact ⟨rfl, _, Eq.trans (World.drewN_drewN _ _ _) (congrArg (World.drewN _) (Nat.add_assoc _ _ _))⟩))); try go_wp2_with (first | (go_at_call 55; (with_reducible refine (r1_Size.calls k _ _ l0 t350 _ ?side1 ?side2 A4.out).mono ?_); (case side1 => exact zc (Kd.C_below HR0.out HB.out)); (case side2 => exact HC0.out); rintro e w' ⟨rfl, ⟨nd, rfl⟩⟩; (try first | exact ⟨rfl, _, World.drewN_drewN _ _ _⟩ | exact ⟨rfl, _, Eq.trans (World.drewN_drewN _ _ _) (congrArg (World.drewN _) (Nat.add_assoc _ _ _))⟩))))
    go_meet
    case rel => exact ⟨_, (true), (zs), H', ⟨zl⟩, ⟨zh0 HB.out⟩⟩
  · rw [if_neg c5] at H
    have c5b0 : decide (t350 < 0) = false := decide_eq_false c5
    clear c5
    (first | rw [c5b0] | (simp only [i64_w, i32_w]; rw [c5b0]) | skip)
    have H' := Aside0.mk H
    clear H
    go_wp2_with (first | (go_at_call 55; (with_reducible refine (r1_Size.calls k _ _ l0 t350 _ ?side1 ?side2 A4.out).mono ?_); (case side1 => exact zc (Kd.C_below HR0.out HB.out)); (case side2 => exact HC0.out); rintro e w' ⟨rfl, ⟨nd, rfl⟩⟩; (try first | exact ⟨rfl, _, World.drewN_drewN _ _ _⟩ | exact ⟨rfl, _, Eq.trans (World.drewN_drewN _ _ _) (congrArg (World.drewN _) (Nat.add_assoc _ _ _))⟩)))
    repeat (go_quiet (first | (go_at_call 55; (with_reducible refine (r1_Size.calls k _ _ l0 t350 _ ?side1 ?side2 A4.out).mono ?_); (case side1 => exact zc (Kd.C_below HR0.out HB.out)); (case side2 => exact HC0.out); rintro e w' ⟨rfl, ⟨nd, rfl⟩⟩; (try first | exact ⟨rfl, _, World.drewN_drewN _ _ _⟩ | exact ⟨rfl, _, Eq.trans (World.drewN_drewN _ _ _) (congrArg (World.drewN _) (Nat.add_assoc _ _ _))⟩))); try go_wp2_with (first | (go_at_call 55; (with_reducible refine (r1_Size.calls k _ _ l0 t350 _ ?side1 ?side2 A4.out).mono ?_); (case side1 => exact zc (Kd.C_below HR0.out HB.out)); (case side2 => exact HC0.out); rintro e w' ⟨rfl, ⟨nd, rfl⟩⟩; (try first | exact ⟨rfl, _, World.drewN_drewN _ _ _⟩ | exact ⟨rfl, _, Eq.trans (World.drewN_drewN _ _ _) (congrArg (World.drewN _) (Nat.add_assoc _ _ _))⟩))))
    go_meet
    case rel => exact ⟨_, (((l0.length : Int) != (l1.length : Int))), (zs), H', ⟨zl⟩, ⟨zh0 HB.out⟩⟩
 case rest =>
  clear HC3; (try clear c1)
  (try clear p2); (try clear c4)
  (try clear c5); (try clear c5b0)
  obtain ⟨kq, x19_2, rfl, HA, HJ2, HB⟩ := hcut
  cases kq with
  | zero => exact absurd HA.out (by simp [r1_Write.j0])
  | succ kj2 =>
    have H := HA.out
    clear HA
    simp only [r1_Write.j0] at H
    by_cases c6 : x19_2 = true
    · subst c6
      have H1 : (some ((⟨#[]⟩ : ByteArray), 1)) = some (r1, r2) := by rw [if_pos rfl] at H; exact H
      clear H
      have H := H1
      clear H1
      simp only [Option.some.injEq, Prod.mk.injEq] at H
      obtain ⟨rfl, rfl⟩ := H
      go_wp2
      repeat (go_quiet (fail); try go_wp2)
      go_ret2
      exact ⟨ze, zh0 HB.out⟩
    · replace c6 := Bool.eq_false_iff.mpr c6
      subst c6
      have H1 : (r1_Write.l0 kj2 l0 l1 ([] : List Int) 0) = some (r1, r2) := by rw [if_neg (show ¬ (false = true) by decide)] at H; exact H
      clear H
      have H := H1
      clear H1
      have H' := Aside0.mk H
      clear H
      go_wp2
      repeat (go_quiet (fail); try go_wp2)
      go_loopg [6, 7] kj2 (fun kq v6 v7 w' => ∃ (x6_2 : List Int) (x7_2 : Int), v7 = .int .i64 x7_2 ∧ Aside0 (r1_Write.l0 kq l0 l1 x6_2 x7_2 = some (r1, r2)) ∧ Aside0 (kq ≤ kj2) ∧ Aside0 (Kd.R (Kd.int .u8) 5 w' w.heap.size (fun _ => True) v6 x6_2) ∧ Aside0 (Below w.heap.size w w'))
      case atStart => exact ⟨(([] : List Int)), (0), (zs), H', ⟨Nat.le_refl _⟩, ⟨by first | exact Kd.R_nil _ _ _ _ _ | exact Kd.N_nil _ _ _ _ _ | exact Kd.V_nil _ _ _ _ _ | exact Kd.Q_nil _ _ _ _ _ | exact Kd.S_nil _ _ _ _ _⟩, ⟨zh0 HB.out⟩⟩
      case round =>
       clear H'
       (try clear c1); (try clear p2)
       (try clear c4); (try clear c5)
       (try clear c5b0); (try clear c6); (try clear p2)
       obtain ⟨x6_2, x7_2, rfl, HA, HK2, HO_6, HB⟩ := hrel
       cases gk with
       | zero => exact absurd HA.out (by simp [r1_Write.l0])
       | succ k2 =>
         have H := HA.out
         clear HA
         simp only [r1_Write.l0] at H
         by_cases c7 : x7_2 < (l0.length : Int)
         · rw [if_pos c7] at H
           have c7b0 : decide (x7_2 < (l0.length : Int)) = true := decide_eq_true c7
           clear c7
           have HC8 := Aside0.mk H
           clear H
           go_upto_region 7 with (fail)
           repeat (go_quiet (fail); go_upto_region 7 with (fail))
           go_cut [42] (fun v42 wc => ∃ (kq : Nat) (x42_7 : Bool), v42 = .bool x42_7 ∧ Aside0 (r1_Write.j2 kq l0 l1 x6_2 x7_2 x42_7 = some (r1, r2)) ∧ Aside0 (kq ≤ k2) ∧ Aside0 (Kd.R (Kd.int .u8) 5 wc w.heap.size (fun _ => True) u6 x6_2) ∧ Aside0 (Below w.heap.size w wc))
           case first =>
            have H := HC8.out
            clear HC8
            by_cases c9 : 0 ≤ x7_2
            · rw [if_pos c9] at H
              have c9b0 : decide (0 ≤ x7_2) = true := decide_eq_true c9
              clear c9
              (first | rw [c9b0] | (simp only [i64_w, i32_w]; rw [c9b0]) | skip)
              by_cases c10 : x7_2 < (l1.length : Int)
              · rw [if_pos c10] at H
                have c10b0 : decide (x7_2 < (l1.length : Int)) = true := decide_eq_true c10
                clear c10
                by_cases c11 : (rd l1 x7_2) < 0
                · rw [if_pos c11] at H
                  have c11b0 : decide ((rd l1 x7_2) < 0) = true := decide_eq_true c11
                  clear c11
                  have H' := Aside0.mk H
                  clear H
                  have p351 : 0 ≤ (x7_2 : Int) := zd
                  have q351 : x7_2 < (l1.length : Int) := zd
                  obtain ⟨ad351, e351, hx351_0⟩ := Kd.at_int HR1.out x7_2 p351 q351
                  cases e351
                  replace hx351_0 := pw_cell_below HB.out hx351_0
                  replace p351 := eq_true p351
                  replace q351 := eq_true q351
                  go_wp2
                  repeat (go_quiet (fail); try go_wp2)
                  go_meet
                  case rel => exact ⟨_, (true), (zs), H', ⟨by have := HJ2.out; have := HK2.out; first | omega | exact Nat.le_refl _⟩, ⟨zr HO_6.out⟩, ⟨zh0 HB.out⟩⟩
                · rw [if_neg c11] at H
                  have c11b0 : decide ((rd l1 x7_2) < 0) = false := decide_eq_false c11
                  clear c11
                  replace H := Option.bind_eq_some_iff.mp H
                  obtain ⟨t354, A120, H⟩ := H
                  replace H : (r1_Write.j2 k2 l0 l1 x6_2 x7_2 (decide ((rd l1 x7_2) > t354))) = some (r1, r2) := H
                  have A12 := Aside0.mk A120
                  clear A120
                  have H' := Aside0.mk H
                  clear H
                  have p351 : 0 ≤ (x7_2 : Int) := zd
                  have q351 : x7_2 < (l1.length : Int) := zd
                  obtain ⟨ad351, e351, hx351_0⟩ := Kd.at_int HR1.out x7_2 p351 q351
                  cases e351
                  replace hx351_0 := pw_cell_below HB.out hx351_0
                  replace p351 := eq_true p351
                  replace q351 := eq_true q351
                  have p352 : 0 ≤ (x7_2 : Int) := zd
                  have q352 : x7_2 < (l1.length : Int) := zd
                  obtain ⟨ad352, e352, hx352_0⟩ := Kd.at_int HR1.out x7_2 p352 q352
                  obtain rfl : ad351 = ad352 := (by injection e352)
                  replace hx352_0 := pw_cell_below HB.out hx352_0
                  replace p352 := eq_true p352
                  replace q352 := eq_true q352
                  have p353 : 0 ≤ (x7_2 : Int) := zd
                  have q353 : x7_2 < (l0.length : Int) := zd
                  obtain ⟨ad353, e353, hx353_0⟩ := Kd.at_int HR0.out x7_2 p353 q353
                  cases e353
                  replace hx353_0 := pw_cell_below HB.out hx353_0
                  replace p353 := eq_true p353
                  replace q353 := eq_true q353
                  go_wp2_with (first | (go_at_call 62; (with_reducible refine (r1_most.calls (rd l0 x7_2) t354 _ A12.out).mono ?_); rintro e w' ⟨rfl, ⟨nd, rfl⟩⟩; (try first | exact ⟨rfl, _, World.drewN_drewN _ _ _⟩ | exact ⟨rfl, _, Eq.trans (World.drewN_drewN _ _ _) (congrArg (World.drewN _) (Nat.add_assoc _ _ _))⟩)))
                  repeat (go_quiet (first | (go_at_call 62; (with_reducible refine (r1_most.calls (rd l0 x7_2) t354 _ A12.out).mono ?_); rintro e w' ⟨rfl, ⟨nd, rfl⟩⟩; (try first | exact ⟨rfl, _, World.drewN_drewN _ _ _⟩ | exact ⟨rfl, _, Eq.trans (World.drewN_drewN _ _ _) (congrArg (World.drewN _) (Nat.add_assoc _ _ _))⟩))); try go_wp2_with (first | (go_at_call 62; (with_reducible refine (r1_most.calls (rd l0 x7_2) t354 _ A12.out).mono ?_); rintro e w' ⟨rfl, ⟨nd, rfl⟩⟩; (try first | exact ⟨rfl, _, World.drewN_drewN _ _ _⟩ | exact ⟨rfl, _, Eq.trans (World.drewN_drewN _ _ _) (congrArg (World.drewN _) (Nat.add_assoc _ _ _))⟩))))
                  go_meet
                  case rel => exact ⟨_, (decide ((rd l1 x7_2) > t354)), (zs), H', ⟨by have := HJ2.out; have := HK2.out; first | omega | exact Nat.le_refl _⟩, ⟨zr HO_6.out⟩, ⟨zh0 HB.out⟩⟩
              · rw [if_neg c10] at H
                exact absurd H (by simp)
            · rw [if_neg c9] at H
              exact absurd H (by simp)
           case rest =>
            clear HC8; (try clear c1)
            (try clear p2); (try clear p3)
            (try clear q3); (try clear hx3)
            (try clear c4); (try clear c5)
            (try clear c5b0); (try clear c6)
            (try clear c7); (try clear c7b0)
            (try clear c9); (try clear c9b0)
            (try clear c10); (try clear c10b0)
            (try clear c11); (try clear c11b0)
            (try clear hx351_0); (try clear hx352_0)
            (try clear hx353_0); (try clear p2)
            (try clear p351); (try clear p352)
            (try clear p353); (try clear q351)
            (try clear q352); (try clear q353)
            obtain ⟨kq, x42_7, rfl, HA, HJ7, HO_6, HB⟩ := hcut
            cases kq with
            | zero => exact absurd HA.out (by simp [r1_Write.j2])
            | succ kj7 =>
              have H := HA.out
              clear HA
              simp only [r1_Write.j2] at H
              by_cases c13 : x42_7 = true
              · subst c13
                have H1 : (some ((⟨#[]⟩ : ByteArray), 3)) = some (r1, r2) := by rw [if_pos rfl] at H; exact H
                clear H
                have H := H1
                clear H1
                simp only [Option.some.injEq, Prod.mk.injEq] at H
                obtain ⟨rfl, rfl⟩ := H
                go_wp2
                repeat (go_quiet (fail); try go_wp2)
                go_ret2
                exact ⟨ze, zh0 HB.out⟩
              · replace c13 := Bool.eq_false_iff.mpr c13
                subst c13
                have H1 : (if 0 ≤ x7_2 then (if x7_2 < (l1.length : Int) then (r1_Write.l1 kj7 l0 l1 x6_2 x7_2 (rd l1 x7_2) 0) else (none)) else (none)) = some (r1, r2) := by rw [if_neg (show ¬ (false = true) by decide)] at H; exact H
                clear H
                have H := H1
                clear H1
                by_cases c14 : 0 ≤ x7_2
                · rw [if_pos c14] at H
                  have c14b0 : decide (0 ≤ x7_2) = true := decide_eq_true c14
                  clear c14
                  by_cases c15 : x7_2 < (l1.length : Int)
                  · rw [if_pos c15] at H
                    have c15b0 : decide (x7_2 < (l1.length : Int)) = true := decide_eq_true c15
                    clear c15
                    have H' := Aside0.mk H
                    clear H
                    have p355 : 0 ≤ (x7_2 : Int) := zd
                    have q355 : x7_2 < (l1.length : Int) := zd
                    obtain ⟨ad355, e355, hx355_0⟩ := Kd.at_int HR1.out x7_2 p355 q355
                    cases e355
                    replace hx355_0 := pw_cell_below HB.out hx355_0
                    replace p355 := eq_true p355
                    replace q355 := eq_true q355
                    go_wp2
                    repeat (go_quiet (fail); try go_wp2)
                    go_loopg [6, 8, 9] kj7 (fun kq v6 v8 v9 w' => ∃ (x6_4 : List Int) (x8_4 : Int) (x9_4 : Int), v8 = .int .i64 x8_4 ∧ v9 = .int .i64 x9_4 ∧ Aside0 (r1_Write.l1 kq l0 l1 x6_4 x7_2 x8_4 x9_4 = some (r1, r2)) ∧ Aside0 (kq ≤ kj7) ∧ Aside0 (Kd.R (Kd.int .u8) 5 w' w.heap.size (fun _ => True) v6 x6_4) ∧ Aside0 (Below w.heap.size w w'))
                    case atStart => exact ⟨(x6_2), (rd l1 x7_2), (0), (zs), (zs), H', ⟨Nat.le_refl _⟩, ⟨zr HO_6.out⟩, ⟨zh0 HB.out⟩⟩
                    case round =>
                     clear H'
                     (try clear c1); (try clear p2)
                     (try clear p3); (try clear q3)
                     (try clear hx3); (try clear c4)
                     (try clear c5); (try clear c5b0)
                     (try clear c6); (try clear c7)
                     (try clear c7b0); (try clear c9)
                     (try clear c9b0); (try clear c10)
                     (try clear c10b0); (try clear c11)
                     (try clear c11b0); (try clear c13)
                     (try clear c14); (try clear c14b0)
                     (try clear c15); (try clear c15b0)
                     (try clear hx351_0); (try clear hx352_0)
                     (try clear hx353_0); (try clear hx355_0)
                     (try clear p2); (try clear p3)
                     (try clear p351); (try clear p352)
                     (try clear p353); (try clear p355)
                     (try clear q3); (try clear q351)
                     (try clear q352); (try clear q353); (try clear q355)
                     obtain ⟨x6_4, x8_4, x9_4, rfl, rfl, HA, HK4, HO_6, HB⟩ := hrel
                     cases gk with
                     | zero => exact absurd HA.out (by simp [r1_Write.l1])
                     | succ k4 =>
                       have H := HA.out
                       clear HA
                       simp only [r1_Write.l1] at H
                       by_cases c16 : 0 ≤ x7_2
                       · rw [if_pos c16] at H
                         have c16b0 : decide (0 ≤ x7_2) = true := decide_eq_true c16
                         clear c16
                         by_cases c17 : x7_2 < (l0.length : Int)
                         · rw [if_pos c17] at H
                           have c17b0 : decide (x7_2 < (l0.length : Int)) = true := decide_eq_true c17
                           clear c17
                           by_cases c18 : x9_4 < (rd l0 x7_2)
                           · rw [if_pos c18] at H
                             have c18b0 : decide (x9_4 < (rd l0 x7_2)) = true := decide_eq_true c18
                             clear c18
                             by_cases c19 : x6_4.length < 140737488355328
                             · rw [if_pos c19] at H
                               have LMc19 := Aside0.mk c19
                               clear c19
                               obtain ⟨y357, hy357⟩ : ∃ y_ : List Int, y_ = (x6_4 ++ [(Int.tmod x8_4 256) % 256]) := ⟨_, rfl⟩
                               replace H : (r1_Write.l1 k4 l0 l1 y357 x7_2 (wrap64 (Int.tdiv x8_4 256)) (wrap64 (x9_4 + 1))) = some (r1, r2) := by first | (rw [hy357]; with_reducible exact H) | (have H2_ := (Option.bind_some _ _).symm.trans H; rw [hy357]; with_reducible exact H2_) | (have H2_ := (Option.bind_some _ _).symm.trans H; with_reducible exact H2_) | with_reducible exact H | (rw [hy357]; exact H) | exact H
                               have Ny357 := Aside0.mk hy357
                               clear hy357
                               have H' := Aside0.mk H
                               clear H
                               have p356 : 0 ≤ (x7_2 : Int) := zd
                               have q356 : x7_2 < (l0.length : Int) := zd
                               obtain ⟨ad356, e356, hx356_0⟩ := Kd.at_int HR0.out x7_2 p356 q356
                               cases e356
                               replace hx356_0 := pw_cell_below HB.out hx356_0
                               replace p356 := eq_true p356
                               replace q356 := eq_true q356
                               go_wp2_with (first | ((with_reducible refine gate_builtin (b := .append) (xs := #[.tmp 55, .tmp 59]) rfl ?_); (try (refine gate_guard (by rfl) ?_; dsimp only)); at_builtin; refine Kd.R_append (Kd.int .u8) (w0 := w) w.heap.size rfl (.tmp 55) (.tmp 59) 62 5 (.int .u8 0) 1 rfl Try.underlying62 info5 rfl (by decide) (by omega) u6 x6_4 ((Int.tmod x8_4 256) % 256) [.int .u8 ((Int.tmod x8_4 256) % 256)] (fun _ => True) (fun _ => False) rfl rfl ?aP (fun _ hk => hk.elim) ?aF ?aO ?aB ?aS ?aL ?_; (case aP => exact rfl); (case aB => exact (zh0 HB.out)); (case aF => exact (fun _ _ => trivial)); (case aO => exact (zr HO_6.out)); (case aS => exact (below_size (zh0 HB.out))); (case aL => have := LMc19.out; omega); intro v358 w20 ho hb hg hat; rw [← Ny357.out] at ho; replace HB := Aside0.mk (hb); have HO359 := Aside0.mk (ho); (try clear HO_6); clear ho hb hg hat))
                               repeat (go_quiet (first | ((with_reducible refine gate_builtin (b := .append) (xs := #[.tmp 55, .tmp 59]) rfl ?_); (try (refine gate_guard (by rfl) ?_; dsimp only)); at_builtin; refine Kd.R_append (Kd.int .u8) (w0 := w) w.heap.size rfl (.tmp 55) (.tmp 59) 62 5 (.int .u8 0) 1 rfl Try.underlying62 info5 rfl (by decide) (by omega) u6 x6_4 ((Int.tmod x8_4 256) % 256) [.int .u8 ((Int.tmod x8_4 256) % 256)] (fun _ => True) (fun _ => False) rfl rfl ?aP (fun _ hk => hk.elim) ?aF ?aO ?aB ?aS ?aL ?_; (case aP => exact rfl); (case aB => exact (zh0 HB.out)); (case aF => exact (fun _ _ => trivial)); (case aO => exact (zr HO_6.out)); (case aS => exact (below_size (zh0 HB.out))); (case aL => have := LMc19.out; omega); intro v358 w20 ho hb hg hat; rw [← Ny357.out] at ho; replace HB := Aside0.mk (hb); have HO359 := Aside0.mk (ho); (try clear HO_6); clear ho hb hg hat)); try go_wp2_with (first | ((with_reducible refine gate_builtin (b := .append) (xs := #[.tmp 55, .tmp 59]) rfl ?_); (try (refine gate_guard (by rfl) ?_; dsimp only)); at_builtin; refine Kd.R_append (Kd.int .u8) (w0 := w) w.heap.size rfl (.tmp 55) (.tmp 59) 62 5 (.int .u8 0) 1 rfl Try.underlying62 info5 rfl (by decide) (by omega) u6 x6_4 ((Int.tmod x8_4 256) % 256) [.int .u8 ((Int.tmod x8_4 256) % 256)] (fun _ => True) (fun _ => False) rfl rfl ?aP (fun _ hk => hk.elim) ?aF ?aO ?aB ?aS ?aL ?_; (case aP => exact rfl); (case aB => exact (zh0 HB.out)); (case aF => exact (fun _ _ => trivial)); (case aO => exact (zr HO_6.out)); (case aS => exact (below_size (zh0 HB.out))); (case aL => have := LMc19.out; omega); intro v358 w20 ho hb hg hat; rw [← Ny357.out] at ho; replace HB := Aside0.mk (hb); have HO359 := Aside0.mk (ho); (try clear HO_6); clear ho hb hg hat)))
                               go_roundg k4
                               case measure => have := HJ2.out; have := HK2.out; have := HJ7.out; have := HK4.out; omega
                               case rel => exact ⟨(y357), (wrap64 (Int.tdiv x8_4 256)), (wrap64 (x9_4 + 1)), (zs), (zs), H', ⟨by have := HJ2.out; have := HK2.out; have := HJ7.out; have := HK4.out; omega⟩, ⟨zr HO359.out⟩, ⟨zh0 HB.out⟩⟩
                             · rw [if_neg c19] at H
                               exact absurd H (by simp)
                           · rw [if_neg c18] at H
                             have c18b0 : decide (x9_4 < (rd l0 x7_2)) = false := decide_eq_false c18
                             clear c18
                             have H' := Aside0.mk H
                             clear H
                             have p356 : 0 ≤ (x7_2 : Int) := zd
                             have q356 : x7_2 < (l0.length : Int) := zd
                             obtain ⟨ad356, e356, hx356_0⟩ := Kd.at_int HR0.out x7_2 p356 q356
                             cases e356
                             replace hx356_0 := pw_cell_below HB.out hx356_0
                             replace p356 := eq_true p356
                             replace q356 := eq_true q356
                             go_wp2
                             repeat (go_quiet (fail); try go_wp2)
                             go_roundg k4
                             case measure => have := HJ2.out; have := HK2.out; have := HJ7.out; have := HK4.out; omega
                             case rel => exact ⟨(x6_4), (wrap64 (x7_2 + 1)), (zs), H', ⟨by have := HJ2.out; have := HK2.out; have := HJ7.out; have := HK4.out; omega⟩, ⟨zr HO_6.out⟩, ⟨zh0 HB.out⟩⟩
                         · rw [if_neg c17] at H
                           exact absurd H (by simp)
                       · rw [if_neg c16] at H
                         exact absurd H (by simp)
                  · rw [if_neg c15] at H
                    exact absurd H (by simp)
                · rw [if_neg c14] at H
                  exact absurd H (by simp)
         · rw [if_neg c7] at H
           have c7b0 : decide (x7_2 < (l0.length : Int)) = false := decide_eq_false c7
           clear c7
           simp only [Option.some.injEq, Prod.mk.injEq] at H
           obtain ⟨rfl, rfl⟩ := H
           have hcv21 := own_string (P := Try.prog) Try.underlying62 Try.underlying5 Try.underlying9 (Kd.own_of_R HO_6.out)
           go_wp2
           repeat (go_quiet (fail); try go_wp2)
           go_ret2
           exact ⟨ze, zh0 HB.out⟩

/-! ### r9_bytes: function 27 -/
def r9_bytes.l0 : Nat → Int → List Int → List Int → Int → Option (ByteArray)
 | 0, _, _, _, _ => none
 | k + 1, x0, x1, x5, x6 => if x6 < (x1.length : Int) then (if x5.length < 17592186044416 then (r9_bytes.l0 k x0 x1 (x5 ++ [x0]) (wrap64 (x6 + 1))) else (none)) else ((r1_Write.f k x5 x1).bind fun bt363 => (some bt363.1))
def r9_bytes.f (k : Nat) (a0 : Int) (l1 : List Int) : Option (ByteArray) := r9_bytes.l0 k a0 l1 ([] : List Int) 0
theorem r9_bytes.mono_l : ∀ k, (∀ y0 y1 y2 y3, LeO (r9_bytes.l0 k y0 y1 y2 y3) (r9_bytes.l0 (k + 1) y0 y1 y2 y3))
 | 0 => fun _ _ _ _ r h => by simp [r9_bytes.l0] at h
 | k + 1 => by
   have ih0 := r9_bytes.mono_l k
   · intro y0 y1 y2 y3
     unfold r9_bytes.l0
     repeat' first
     | (with_reducible exact ih0 _ _ _ _)
     | (with_reducible exact r1_Write.mono _ _ _)
     | (with_reducible exact LeO.refl _)
     | (with_reducible exact LeO.none _)
     | (with_reducible refine LeO.ite ?_ ?_)
     | (with_reducible refine LeO.bind ?_ (fun _ => ?_))
     | exact ih0 _ _ _ _
     | exact r1_Write.mono _ _ _
     | exact LeO.none _
     | refine LeO.ite ?_ ?_
     | refine LeO.bind ?_ (fun _ => ?_)
theorem r9_bytes.mono : ∀ a0 a1 k, LeO (r9_bytes.f k a0 a1) (r9_bytes.f (k + 1) a0 a1) := by
 intro a0 a1 k
 have ih0 := r9_bytes.mono_l k
 unfold r9_bytes.f
 repeat' first
  | (with_reducible exact ih0 _ _ _ _)
  | (with_reducible exact r1_Write.mono _ _ _)
  | (with_reducible exact LeO.refl _)
  | (with_reducible exact LeO.none _)
  | (with_reducible refine LeO.ite ?_ ?_)
  | (with_reducible refine LeO.bind ?_ (fun _ => ?_))
  | exact ih0 _ _ _ _
  | exact r1_Write.mono _ _ _
  | exact LeO.none _
  | refine LeO.ite ?_ ?_
  | refine LeO.bind ?_ (fun _ => ?_)
set_option maxHeartbeats 8000000 in
set_option maxRecDepth 100000 in
theorem r9_bytes.calls (k : Nat) (a0 : Int) (A1 : Option Addr) (c1 : Nat) (l1 : List Int) (r : ByteArray) (w : World) (hr1 : Kd.C (Kd.int .i64) w A1 l1.length l1) (hc1 : l1.length ≤ c1) (h : r9_bytes.f k a0 l1 = some r) :
 Calls Try.prog 27 #[.int .i64 a0, .slice A1 l1.length c1] w fun e w' => e = .returned (.string r) ∧ Below w.heap.size w w' := by
 have HR1 := Aside0.mk hr1
 have HC1 := Aside0.mk hc1
 clear hr1 hc1
 have HB := Aside0.mk (Below.refl w.heap.size w)
 have H : (r9_bytes.l0 k a0 l1 ([] : List Int) 0) = some r := h
 clear h
 have H' := Aside0.mk H
 clear H
 go_enter Try.func27, Try.ntmps27
 go_wp2
 go_loopg [5, 6] k (fun kq v5 v6 w' => ∃ (x5_1 : List Int) (x6_1 : Int), v6 = .int .i64 x6_1 ∧ Aside0 (r9_bytes.l0 kq a0 l1 x5_1 x6_1 = some r) ∧ Aside0 (kq ≤ k) ∧ Aside0 (Kd.R (Kd.int .i64) 3 w' w.heap.size (fun _ => True) v5 x5_1) ∧ Aside0 (Below w.heap.size w w'))
 case atStart => exact ⟨(([] : List Int)), (0), (zs), H', ⟨Nat.le_refl _⟩, ⟨by first | exact Kd.R_nil _ _ _ _ _ | exact Kd.N_nil _ _ _ _ _ | exact Kd.V_nil _ _ _ _ _ | exact Kd.Q_nil _ _ _ _ _ | exact Kd.S_nil _ _ _ _ _⟩, ⟨zh0 HB.out⟩⟩
 case round =>
  clear H'
  (try clear c1); (try clear c2); (try clear p2)
  obtain ⟨x5_1, x6_1, rfl, HA, HK1, HO_5, HB⟩ := hrel
  cases gk with
  | zero => exact absurd HA.out (by simp [r9_bytes.l0])
  | succ k1 =>
    have H := HA.out
    clear HA
    simp only [r9_bytes.l0] at H
    by_cases c3 : x6_1 < (l1.length : Int)
    · rw [if_pos c3] at H
      have c3b0 : decide (x6_1 < (l1.length : Int)) = true := decide_eq_true c3
      clear c3
      by_cases c4 : x5_1.length < 17592186044416
      · rw [if_pos c4] at H
        have LMc4 := Aside0.mk c4
        clear c4
        obtain ⟨y360, hy360⟩ : ∃ y_ : List Int, y_ = (x5_1 ++ [a0]) := ⟨_, rfl⟩
        replace H : (r9_bytes.l0 k1 a0 l1 y360 (wrap64 (x6_1 + 1))) = some r := by first | (rw [hy360]; with_reducible exact H) | (have H2_ := (Option.bind_some _ _).symm.trans H; rw [hy360]; with_reducible exact H2_) | (have H2_ := (Option.bind_some _ _).symm.trans H; with_reducible exact H2_) | with_reducible exact H | (rw [hy360]; exact H) | exact H
        have Ny360 := Aside0.mk hy360
        clear hy360
        have H' := Aside0.mk H
        clear H
        go_wp2_with (first | ((with_reducible refine gate_builtin (b := .append) (xs := #[.tmp 15, .tmp 17]) rfl ?_); at_builtin; refine Kd.R_append (Kd.int .i64) (w0 := w) w.heap.size rfl (.tmp 15) (.tmp 17) 22 3 (.int .i64 0) 8 rfl Try.underlying22 info3 rfl (by decide) (by omega) u5 x5_1 a0 [.int .i64 a0] (fun _ => True) (fun _ => False) rfl rfl ?aP (fun _ hk => hk.elim) ?aF ?aO ?aB ?aS ?aL ?_; (case aP => exact rfl); (case aB => exact (zh0 HB.out)); (case aF => exact (fun _ _ => trivial)); (case aO => exact (zr HO_5.out)); (case aS => exact (below_size (zh0 HB.out))); (case aL => have := LMc4.out; omega); intro v361 w5 ho hb hg hat; rw [← Ny360.out] at ho; replace HB := Aside0.mk (hb); have HO362 := Aside0.mk (ho); (try clear HO_5); clear ho hb hg hat))
        go_roundg k1
        case measure => have := HK1.out; omega
        case rel => exact ⟨(y360), (wrap64 (x6_1 + 1)), (zs), H', ⟨by have := HK1.out; omega⟩, ⟨zr HO362.out⟩, ⟨zh0 HB.out⟩⟩
      · rw [if_neg c4] at H
        exact absurd H (by simp)
    · rw [if_neg c3] at H
      have c3b0 : decide (x6_1 < (l1.length : Int)) = false := decide_eq_false c3
      clear c3
      replace H := Option.bind_eq_some_iff.mp H
      obtain ⟨⟨t363, t364⟩, A60, H⟩ := H
      replace H : (some t363) = some r := H
      have A6 := Aside0.mk A60
      clear A60
      obtain rfl := Option.some.inj H
      obtain ⟨Ao7, co7, eo7⟩ := Kd.R_slice HO_5.out
      subst eo7
      go_wp2_with (first | ((with_reducible refine gate_callee (f := 48) rfl ?_); refine zgl (some 22) Try.func48 #[.slice Ao7 x5_1.length co7, .slice A1 l1.length c1] ?_; (with_reducible refine (r1_Write.calls k1 _ _ x5_1 _ _ l1 t363 t364 _ ?side1 ?side2 ?side3 ?side4 A6.out).mono ?_); (case side1 => exact zc ((Kd.R_reads' HO_5.out).2.2)); (case side2 => exact (Kd.R_reads' HO_5.out).2.1); (case side3 => exact zc (Kd.C_below HR1.out HB.out)); (case side4 => exact HC1.out); rintro e w8 ⟨rfl, hb⟩; refine ⟨_, rfl, ?_⟩; replace HO_5 := Aside0.mk (zR HO_5.out hb); replace HB := Aside0.mk (below_step (zh0 HB.out) hb); (try clear hb); (try clear hb2); (try clear hk); (try clear hi)))
      go_ret
      exact ⟨ze, zh0 HB.out⟩

end Go.Proofs.Ytgigoogekimgkaa.GCrd
