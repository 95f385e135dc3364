/- printed for this claim by gprint.py, a program of this session, that drives the kit's printer. -/
import Derived.Test.YtefomcoimbnalaaDoorGGlbx0
import Derived.Test.YtefomcoimbnalaaDoorGGlbx1
namespace Go.Proofs.YtefomcoimbnalaaDoor.GGlb
open Go.RowKit Go.Proofs.YtefomcoimbnalaaDoorW.PrintWords Go.Proofs.YtefomcoimbnalaaDoorW.PrintLast Go.Proofs.YtefomcoimbnalaaDoorW.PrintMore
attribute [local go_sem] max2_int min2_int max_two min_two max_three min_three max_four min_four   -- for this text's walks alone
set_option linter.unusedVariables false
set_option linter.unusedSimpArgs false

/-! ### glob_among: function 36 -/
mutual
def glob_among.l0 : Nat → ByteArray → Int → Bool → Option (Bool)
  | 0, _, _, _ => none
  | k + 1, x0, x1, x5 => if x0.toList = ([] : List UInt8) then (some x5) else (if 0 < (x0.size : Int) then (if (x0.size : Int) > 2 then (if 1 < (x0.size : Int) then (glob_among.j1 k x0 x1 x5 (bt x0 0) (bt x0 0) 1 ((bt x0 1) == 45)) else (none)) else (glob_among.j1 k x0 x1 x5 (bt x0 0) (bt x0 0) 1 false)) else (none))
def glob_among.j1 : Nat → ByteArray → Int → Bool → Int → Int → Int → Bool → Option (Bool)
  | 0, _, _, _, _, _, _, _ => none
  | k + 1, x0, x1, x5, x6, x7, x8, x27 => if x27 = true then (if 2 < (x0.size : Int) then (if x6 ≤ x1 then (if x1 ≤ (bt x0 2) then (some (!x5)) else (if 3 ≤ (x0.size : Int) then (glob_among.l0 k (x0.extract 3 x0.size) x1 x5) else (none))) else (if 3 ≤ (x0.size : Int) then (glob_among.l0 k (x0.extract 3 x0.size) x1 x5) else (none))) else (none)) else (if x6 ≤ x1 then (if x1 ≤ x7 then (some (!x5)) else (if 0 ≤ x8 then (if x8 ≤ (x0.size : Int) then (glob_among.l0 k (x0.extract (x8 : Int).toNat x0.size) x1 x5) else (none)) else (none))) else (if 0 ≤ x8 then (if x8 ≤ (x0.size : Int) then (glob_among.l0 k (x0.extract (x8 : Int).toNat x0.size) x1 x5) else (none)) else (none)))
end
def glob_among.f (k : Nat) (a0 : ByteArray) (a1 : Int) : Option (Bool) := (strings_CutPrefix.f a0 (⟨#[33]⟩ : ByteArray)).bind fun bt117 => (glob_among.l0 k bt117.1 a1 bt117.2)
theorem glob_among.mono_l : ∀ k, (∀ y0 y1 y2, LeO (glob_among.l0 k y0 y1 y2) (glob_among.l0 (k + 1) y0 y1 y2)) ∧ (∀ y0 y1 y2 y3 y4 y5 y6, LeO (glob_among.j1 k y0 y1 y2 y3 y4 y5 y6) (glob_among.j1 (k + 1) y0 y1 y2 y3 y4 y5 y6))
  | 0 => ⟨fun _ _ _ r h => by simp [glob_among.l0] at h, fun _ _ _ _ _ _ _ r h => by simp [glob_among.j1] at h⟩
  | k + 1 => by
    obtain ⟨ih0, ih1⟩ := glob_among.mono_l k
    refine ⟨?_, ?_⟩
    · intro y0 y1 y2
      unfold glob_among.l0
      repeat' first
      | (with_reducible exact ih0 _ _ _)
      | (with_reducible exact ih1 _ _ _ _ _ _ _)
      | (with_reducible exact LeO.refl _)
      | (with_reducible exact LeO.none _)
      | (with_reducible refine LeO.ite ?_ ?_)
      | (with_reducible refine LeO.bind ?_ (fun _ => ?_))
      | exact ih0 _ _ _
      | exact ih1 _ _ _ _ _ _ _
      | exact LeO.none _
      | refine LeO.ite ?_ ?_
      | refine LeO.bind ?_ (fun _ => ?_)
    · intro y0 y1 y2 y3 y4 y5 y6
      unfold glob_among.j1
      repeat' first
      | (with_reducible exact ih0 _ _ _)
      | (with_reducible exact ih1 _ _ _ _ _ _ _)
      | (with_reducible exact LeO.refl _)
      | (with_reducible exact LeO.none _)
      | (with_reducible refine LeO.ite ?_ ?_)
      | (with_reducible refine LeO.bind ?_ (fun _ => ?_))
      | exact ih0 _ _ _
      | exact ih1 _ _ _ _ _ _ _
      | exact LeO.none _
      | refine LeO.ite ?_ ?_
      | refine LeO.bind ?_ (fun _ => ?_)
theorem glob_among.mono : ∀ a0 a1 k, LeO (glob_among.f k a0 a1) (glob_among.f (k + 1) a0 a1) := by
  intro a0 a1 k
  obtain ⟨ih0, ih1⟩ := glob_among.mono_l k
  unfold glob_among.f
  repeat' first
      | (with_reducible exact ih0 _ _ _)
      | (with_reducible exact ih1 _ _ _ _ _ _ _)
      | (with_reducible exact LeO.refl _)
      | (with_reducible exact LeO.none _)
      | (with_reducible refine LeO.ite ?_ ?_)
      | (with_reducible refine LeO.bind ?_ (fun _ => ?_))
      | exact ih0 _ _ _
      | exact ih1 _ _ _ _ _ _ _
      | exact LeO.none _
      | refine LeO.ite ?_ ?_
      | refine LeO.bind ?_ (fun _ => ?_)
set_option maxHeartbeats 8000000 in
set_option maxRecDepth 100000 in
theorem glob_among.calls (k : Nat) (a0 : ByteArray) (a1 : Int) (r : Bool) (w : World) (h : glob_among.f k a0 a1 = some r) :
    Calls Tryd.prog 36 #[.string a0, .int .u8 a1] w fun e w' => e = .returned (.bool r) ∧ Drawn0 w w' := by
  have H : ((strings_CutPrefix.f a0 (⟨#[33]⟩ : ByteArray)).bind fun bt117 => (glob_among.l0 k bt117.1 a1 bt117.2)) = some r := h
  clear h
  replace H := Option.bind_eq_some_iff.mp H
  obtain ⟨⟨t117, t118⟩, A30, H⟩ := H
  replace H : (glob_among.l0 k t117 a1 t118) = some r := H
  have A3 := Aside0.mk A30
  clear A30
  have H' := Aside0.mk H
  clear H
  go_enter Tryd.func36, Tryd.ntmps36
  go_wp2_with (first | (go_at_call 20; (with_reducible refine (strings_CutPrefix.calls a0 (⟨#[33]⟩ : ByteArray) t117 t118 _ A3.out).mono ?_); rintro e w' ⟨rfl, ⟨nd, rfl⟩⟩; (try first | exact ⟨rfl, _, World.drewN_drewN _ _ _⟩ | exact ⟨rfl, _, Eq.trans (World.drewN_drewN _ _ _) (congrArg (World.drewN _) (Nat.add_assoc _ _ _))⟩)))
  repeat (go_quiet (first | (go_at_call 20; (with_reducible refine (strings_CutPrefix.calls a0 (⟨#[33]⟩ : ByteArray) t117 t118 _ A3.out).mono ?_); rintro e w' ⟨rfl, ⟨nd, rfl⟩⟩; (try first | exact ⟨rfl, _, World.drewN_drewN _ _ _⟩ | exact ⟨rfl, _, Eq.trans (World.drewN_drewN _ _ _) (congrArg (World.drewN _) (Nat.add_assoc _ _ _))⟩))); try go_wp2_with (first | (go_at_call 20; (with_reducible refine (strings_CutPrefix.calls a0 (⟨#[33]⟩ : ByteArray) t117 t118 _ A3.out).mono ?_); rintro e w' ⟨rfl, ⟨nd, rfl⟩⟩; (try first | exact ⟨rfl, _, World.drewN_drewN _ _ _⟩ | exact ⟨rfl, _, Eq.trans (World.drewN_drewN _ _ _) (congrArg (World.drewN _) (Nat.add_assoc _ _ _))⟩))))
  go_loopg [0] k (fun kq v0 w' => ∃ (x0_1 : ByteArray), v0 = .string x0_1 ∧ Aside0 (glob_among.l0 kq x0_1 a1 t118 = some r) ∧ Aside0 (kq ≤ k) ∧ Drawn0 w w')
  case atStart => exact ⟨(t117), (by first | rfl | (simp; done) | (simp [*]; done) | exact gw_ne _ | exact gw_eq _), H', ⟨Nat.le_refl _⟩, by repeat (first | exact Drawn0.refl _ | apply Drawn0.step)⟩
  case round =>
    clear H'
    try clear p2
    try clear c3
    obtain ⟨x0_1, rfl, HA, HK1, ⟨m1, rfl⟩⟩ := hrel
    cases gk with
    | zero => exact absurd HA.out (by simp [glob_among.l0])
    | succ k1 =>
      have H := HA.out
      clear HA
      simp only [glob_among.l0] at H
      by_cases c4 : x0_1.toList = ([] : List UInt8)
      · rw [if_pos c4] at H
        have c4b0 : (x0_1.toList == ([] : List UInt8)) = true := beq_iff_eq.mpr c4
        have c4b1 : (x0_1.toList != ([] : List UInt8)) = false := bne_eq_false_iff_eq.mpr c4
        clear c4
        obtain rfl := Option.some.inj H
        go_wp2
        repeat (go_quiet (fail); try go_wp2)
        go_ret
        exact ⟨by first | rfl | (simp; done) | (simp [*]; done), by repeat (first | exact Drawn0.refl _ | apply Drawn0.step)⟩
      · rw [if_neg c4] at H
        have c4b0 : (x0_1.toList == ([] : List UInt8)) = false := beq_eq_false_iff_ne.mpr c4
        have c4b1 : (x0_1.toList != ([] : List UInt8)) = true := bne_iff_ne.mpr c4
        by_cases c5 : 0 < (x0_1.size : Int)
        · rw [if_pos c5] at H
          have c5b0 : decide (0 < (x0_1.size : Int)) = true := decide_eq_true c5
          have c5b1 : decide (0 < x0_1.size) = true := decide_eq_true (by omega)
          clear c5
          have HC8 := Aside0.mk H
          clear H
          have p6 : 0 ≤ (0 : Int) := (by omega)
          have q6 : 0 < x0_1.size := (by have : (0 : Int) < (x0_1.size : Int) := of_decide_eq_true (by first | (with_reducible assumption) | assumption); omega)
          have hx6 : ∀ h : 0 < x0_1.size, ((x0_1[0]'h).toNat : Int) = bt x0_1 0 := bt_at x0_1 0
          clear p6
          have qi6 : (0 < (x0_1.size : Int)) = True := eq_true (of_decide_eq_true (by first | (with_reducible assumption) | assumption))
          replace q6 := eq_true q6
          have p7 : 0 ≤ (0 : Int) := (by omega)
          have q7 : 0 < x0_1.size := (by have : (0 : Int) < (x0_1.size : Int) := of_decide_eq_true (by first | (with_reducible assumption) | assumption); omega)
          have hx7 : ∀ h : 0 < x0_1.size, ((x0_1[0]'h).toNat : Int) = bt x0_1 0 := bt_at x0_1 0
          clear p7
          have qi7 : (0 < (x0_1.size : Int)) = True := eq_true (of_decide_eq_true (by first | (with_reducible assumption) | assumption))
          replace q7 := eq_true q7
          go_upto_region 4 with (fail)
          repeat (go_quiet (fail); go_upto_region 4 with (fail))
          go_cut [27] (fun v27 wc => ∃ (kq : Nat) (x27_7 : Bool), v27 = .bool x27_7 ∧ Aside0 (glob_among.j1 kq x0_1 a1 t118 (bt x0_1 0) (bt x0_1 0) 1 x27_7 = some r) ∧ Aside0 (kq ≤ k1) ∧ Drawn0 w wc)
          case first =>
            have H := HC8.out
            clear HC8
            by_cases c9 : (x0_1.size : Int) > 2
            · rw [if_pos c9] at H
              have c9b0 : decide (2 < (x0_1.size : Int)) = true := decide_eq_true c9
              have c9b1 : decide (2 < x0_1.size) = true := decide_eq_true (by omega)
              clear c9
              (first | rw [c9b0] | (simp only [i64_w, i32_w]; rw [c9b0]) | skip)
              by_cases c10 : 1 < (x0_1.size : Int)
              · rw [if_pos c10] at H
                have c10b0 : decide (1 < (x0_1.size : Int)) = true := decide_eq_true c10
                have c10b1 : decide (1 < x0_1.size) = true := decide_eq_true (by omega)
                clear c10
                have H' := Aside0.mk H
                clear H
                have p11 : 0 ≤ (1 : Int) := (by omega)
                have q11 : 1 < x0_1.size := (by have : (1 : Int) < (x0_1.size : Int) := of_decide_eq_true (by first | (with_reducible assumption) | assumption); omega)
                have hx11 : ∀ h : 1 < x0_1.size, ((x0_1[1]'h).toNat : Int) = bt x0_1 1 := bt_at x0_1 1
                clear p11
                have qi11 : (1 < (x0_1.size : Int)) = True := eq_true (of_decide_eq_true (by first | (with_reducible assumption) | assumption))
                replace q11 := eq_true q11
                go_wp2
                repeat (go_quiet (fail); try go_wp2)
                go_meet
                case rel => exact ⟨_, (((bt x0_1 1) == 45)), (by first | rfl | (simp; done) | (simp [*]; done) | exact gw_ne _ | exact gw_eq _), H', ⟨by have := HK1.out; first | omega | exact Nat.le_refl _⟩, by repeat (first | exact Drawn0.refl _ | apply Drawn0.step)⟩
              · rw [if_neg c10] at H
                exact absurd H (by simp)
            · rw [if_neg c9] at H
              have c9b0 : decide (2 < (x0_1.size : Int)) = false := decide_eq_false c9
              have c9b1 : decide (2 < x0_1.size) = false := decide_eq_false (by omega)
              clear c9
              (first | rw [c9b0] | (simp only [i64_w, i32_w]; rw [c9b0]) | skip)
              have H' := Aside0.mk H
              clear H
              go_wp2
              repeat (go_quiet (fail); try go_wp2)
              go_meet
              case rel => exact ⟨_, (false), (by first | rfl | (simp; done) | (simp [*]; done) | exact gw_ne _ | exact gw_eq _), H', ⟨by have := HK1.out; first | omega | exact Nat.le_refl _⟩, by repeat (first | exact Drawn0.refl _ | apply Drawn0.step)⟩
          case rest =>
            clear HC8
            try clear c1
            try clear p1
            try clear q1
            try clear hx1
            try clear qi1
            try clear p2
            try clear c3
            try clear c4
            try clear c4b0
            try clear c4b1
            try clear c5
            try clear c5b0
            try clear c5b1
            try clear p6
            try clear q6
            try clear hx6
            try clear qi6
            try clear p7
            try clear q7
            try clear hx7
            try clear qi7
            try clear c9
            try clear c9b0
            try clear c9b1
            try clear c10
            try clear c10b0
            try clear c10b1
            try clear p11
            try clear q11
            try clear hx11
            try clear qi11
            try clear p11
            try clear p2
            try clear p6
            try clear p7
            try clear q11
            try clear q6
            try clear q7
            obtain ⟨kq, x27_7, rfl, HA, HJ7, ⟨mc7, rfl⟩⟩ := hcut
            cases kq with
            | zero => exact absurd HA.out (by simp [glob_among.j1])
            | succ kj7 =>
              have H := HA.out
              clear HA
              simp only [glob_among.j1] at H
              by_cases c12 : x27_7 = true
              · subst c12
                have H1 : (if 2 < (x0_1.size : Int) then (if (bt x0_1 0) ≤ a1 then (if a1 ≤ (bt x0_1 2) then (some (!t118)) else (if 3 ≤ (x0_1.size : Int) then (glob_among.l0 kj7 (x0_1.extract 3 x0_1.size) a1 t118) else (none))) else (if 3 ≤ (x0_1.size : Int) then (glob_among.l0 kj7 (x0_1.extract 3 x0_1.size) a1 t118) else (none))) else (none)) = some r := by rw [if_pos rfl] at H; exact H
                clear H
                have H := H1
                clear H1
                by_cases c13 : 2 < (x0_1.size : Int)
                · rw [if_pos c13] at H
                  have c13b0 : decide (2 < (x0_1.size : Int)) = true := decide_eq_true c13
                  have c13b1 : decide (2 < x0_1.size) = true := decide_eq_true (by omega)
                  clear c13
                  by_cases c15 : (bt x0_1 0) ≤ a1
                  · rw [if_pos c15] at H
                    have c15b0 : decide ((bt x0_1 0) ≤ a1) = true := decide_eq_true c15
                    clear c15
                    by_cases c16 : a1 ≤ (bt x0_1 2)
                    · rw [if_pos c16] at H
                      have c16b0 : decide (a1 ≤ (bt x0_1 2)) = true := decide_eq_true c16
                      clear c16
                      obtain rfl := Option.some.inj H
                      have p14 : 0 ≤ (2 : Int) := (by omega)
                      have q14 : 2 < x0_1.size := (by have : (2 : Int) < (x0_1.size : Int) := of_decide_eq_true (by first | (with_reducible assumption) | assumption); omega)
                      have hx14 : ∀ h : 2 < x0_1.size, ((x0_1[2]'h).toNat : Int) = bt x0_1 2 := bt_at x0_1 2
                      clear p14
                      have qi14 : (2 < (x0_1.size : Int)) = True := eq_true (of_decide_eq_true (by first | (with_reducible assumption) | assumption))
                      replace q14 := eq_true q14
                      go_wp2
                      repeat (go_quiet (fail); try go_wp2)
                      go_ret
                      exact ⟨by first | rfl | (simp; done) | (simp [*]; done), by repeat (first | exact Drawn0.refl _ | apply Drawn0.step)⟩
                    · rw [if_neg c16] at H
                      have c16b0 : decide (a1 ≤ (bt x0_1 2)) = false := decide_eq_false c16
                      clear c16
                      by_cases c17 : 3 ≤ (x0_1.size : Int)
                      · rw [if_pos c17] at H
                        have c17b0 := eq_true c17
                        have c17b1 : decide (3 ≤ (x0_1.size : Int)) = true := decide_eq_true c17
                        clear c17
                        have H' := Aside0.mk H
                        clear H
                        have p14 : 0 ≤ (2 : Int) := (by omega)
                        have q14 : 2 < x0_1.size := (by have : (2 : Int) < (x0_1.size : Int) := of_decide_eq_true (by first | (with_reducible assumption) | assumption); omega)
                        have hx14 : ∀ h : 2 < x0_1.size, ((x0_1[2]'h).toNat : Int) = bt x0_1 2 := bt_at x0_1 2
                        clear p14
                        have qi14 : (2 < (x0_1.size : Int)) = True := eq_true (of_decide_eq_true (by first | (with_reducible assumption) | assumption))
                        replace q14 := eq_true q14
                        go_wp2
                        repeat (go_quiet (fail); try go_wp2)
                        go_roundg kj7
                        case measure => have := HK1.out; have := HJ7.out; omega
                        case rel => exact ⟨(x0_1.extract 3 x0_1.size), (by first | rfl | (simp; done) | (simp [*]; done) | exact gw_ne _ | exact gw_eq _), H', ⟨by have := HK1.out; have := HJ7.out; omega⟩, by repeat (first | exact Drawn0.refl _ | apply Drawn0.step)⟩
                      · rw [if_neg c17] at H
                        exact absurd H (by simp)
                  · rw [if_neg c15] at H
                    have c15b0 : decide ((bt x0_1 0) ≤ a1) = false := decide_eq_false c15
                    clear c15
                    by_cases c18 : 3 ≤ (x0_1.size : Int)
                    · rw [if_pos c18] at H
                      have c18b0 := eq_true c18
                      have c18b1 : decide (3 ≤ (x0_1.size : Int)) = true := decide_eq_true c18
                      clear c18
                      have H' := Aside0.mk H
                      clear H
                      have p14 : 0 ≤ (2 : Int) := (by omega)
                      have q14 : 2 < x0_1.size := (by have : (2 : Int) < (x0_1.size : Int) := of_decide_eq_true (by first | (with_reducible assumption) | assumption); omega)
                      have hx14 : ∀ h : 2 < x0_1.size, ((x0_1[2]'h).toNat : Int) = bt x0_1 2 := bt_at x0_1 2
                      clear p14
                      have qi14 : (2 < (x0_1.size : Int)) = True := eq_true (of_decide_eq_true (by first | (with_reducible assumption) | assumption))
                      replace q14 := eq_true q14
                      go_wp2
                      repeat (go_quiet (fail); try go_wp2)
                      go_roundg kj7
                      case measure => have := HK1.out; have := HJ7.out; omega
                      case rel => exact ⟨(x0_1.extract 3 x0_1.size), (by first | rfl | (simp; done) | (simp [*]; done) | exact gw_ne _ | exact gw_eq _), H', ⟨by have := HK1.out; have := HJ7.out; omega⟩, by repeat (first | exact Drawn0.refl _ | apply Drawn0.step)⟩
                    · rw [if_neg c18] at H
                      exact absurd H (by simp)
                · rw [if_neg c13] at H
                  exact absurd H (by simp)
              · replace c12 := Bool.eq_false_iff.mpr c12
                subst c12
                have H1 : (if (bt x0_1 0) ≤ a1 then (if a1 ≤ (bt x0_1 0) then (some (!t118)) else (if 0 ≤ 1 then (if 1 ≤ (x0_1.size : Int) then (glob_among.l0 kj7 (x0_1.extract (1 : Int).toNat x0_1.size) a1 t118) else (none)) else (none))) else (if 0 ≤ 1 then (if 1 ≤ (x0_1.size : Int) then (glob_among.l0 kj7 (x0_1.extract (1 : Int).toNat x0_1.size) a1 t118) else (none)) else (none))) = some r := by rw [if_neg (show ¬ (false = true) by decide)] at H; exact H
                clear H
                have H := H1
                clear H1
                by_cases c19 : (bt x0_1 0) ≤ a1
                · rw [if_pos c19] at H
                  have c19b0 : decide ((bt x0_1 0) ≤ a1) = true := decide_eq_true c19
                  clear c19
                  by_cases c20 : a1 ≤ (bt x0_1 0)
                  · rw [if_pos c20] at H
                    have c20b0 : decide (a1 ≤ (bt x0_1 0)) = true := decide_eq_true c20
                    clear c20
                    obtain rfl := Option.some.inj H
                    go_wp2
                    repeat (go_quiet (fail); try go_wp2)
                    go_ret
                    exact ⟨by first | rfl | (simp; done) | (simp [*]; done), by repeat (first | exact Drawn0.refl _ | apply Drawn0.step)⟩
                  · rw [if_neg c20] at H
                    have c20b0 : decide (a1 ≤ (bt x0_1 0)) = false := decide_eq_false c20
                    clear c20
                    by_cases c21 : 0 ≤ 1
                    · rw [if_pos c21] at H
                      have c21b0 := eq_true c21
                      have c21b1 : decide (0 ≤ 1) = true := decide_eq_true c21
                      clear c21
                      by_cases c22 : 1 ≤ (x0_1.size : Int)
                      · rw [if_pos c22] at H
                        have c22b0 := eq_true c22
                        have c22b1 : decide (1 ≤ (x0_1.size : Int)) = true := decide_eq_true c22
                        clear c22
                        have H' := Aside0.mk H
                        clear H
                        go_wp2
                        repeat (go_quiet (fail); try go_wp2)
                        go_roundg kj7
                        case measure => have := HK1.out; have := HJ7.out; omega
                        case rel => exact ⟨(x0_1.extract (1 : Int).toNat x0_1.size), (by first | rfl | (simp; done) | (simp [*]; done) | exact gw_ne _ | exact gw_eq _), H', ⟨by have := HK1.out; have := HJ7.out; omega⟩, by repeat (first | exact Drawn0.refl _ | apply Drawn0.step)⟩
                      · rw [if_neg c22] at H
                        exact absurd H (by simp)
                    · rw [if_neg c21] at H
                      exact absurd H (by simp)
                · rw [if_neg c19] at H
                  have c19b0 : decide ((bt x0_1 0) ≤ a1) = false := decide_eq_false c19
                  clear c19
                  by_cases c23 : 0 ≤ 1
                  · rw [if_pos c23] at H
                    have c23b0 := eq_true c23
                    have c23b1 : decide (0 ≤ 1) = true := decide_eq_true c23
                    clear c23
                    by_cases c24 : 1 ≤ (x0_1.size : Int)
                    · rw [if_pos c24] at H
                      have c24b0 := eq_true c24
                      have c24b1 : decide (1 ≤ (x0_1.size : Int)) = true := decide_eq_true c24
                      clear c24
                      have H' := Aside0.mk H
                      clear H
                      go_wp2
                      repeat (go_quiet (fail); try go_wp2)
                      go_roundg kj7
                      case measure => have := HK1.out; have := HJ7.out; omega
                      case rel => exact ⟨(x0_1.extract (1 : Int).toNat x0_1.size), (by first | rfl | (simp; done) | (simp [*]; done) | exact gw_ne _ | exact gw_eq _), H', ⟨by have := HK1.out; have := HJ7.out; omega⟩, by repeat (first | exact Drawn0.refl _ | apply Drawn0.step)⟩
                    · rw [if_neg c24] at H
                      exact absurd H (by simp)
                  · rw [if_neg c23] at H
                    exact absurd H (by simp)
        · rw [if_neg c5] at H
          exact absurd H (by simp)

/-! ### glob_one: function 27 -/
def glob_one.f (k : Nat) (a0 : ByteArray) (a1 : Int) : Option (Bool) := if 0 < (a0.size : Int) then (if (bt a0 0) = 63 then (some true) else (if (bt a0 0) = 91 then (if 1 ≤ (wrap64 ((a0.size : Int) - 1)) then (if (wrap64 ((a0.size : Int) - 1)) ≤ (a0.size : Int) then ((glob_among.f k (a0.extract 1 ((wrap64 ((a0.size : Int) - 1)) : Int).toNat) a1).bind fun t119 => (some t119)) else (none)) else (none)) else (if 0 ≤ (wrap64 ((a0.size : Int) - 1)) then (if (wrap64 ((a0.size : Int) - 1)) < (a0.size : Int) then (some ((bt a0 (wrap64 ((a0.size : Int) - 1))) == a1)) else (none)) else (none)))) else (none)
theorem glob_one.mono : ∀ a0 a1 k, LeO (glob_one.f k a0 a1) (glob_one.f (k + 1) a0 a1) := by
  intro a0 a1 k
  unfold glob_one.f
  repeat' first
      | (with_reducible exact glob_among.mono _ _ _)
      | (with_reducible exact LeO.refl _)
      | (with_reducible exact LeO.none _)
      | (with_reducible refine LeO.ite ?_ ?_)
      | (with_reducible refine LeO.bind ?_ (fun _ => ?_))
      | exact glob_among.mono _ _ _
      | exact LeO.none _
      | refine LeO.ite ?_ ?_
      | refine LeO.bind ?_ (fun _ => ?_)
set_option maxHeartbeats 8000000 in
set_option maxRecDepth 100000 in
theorem glob_one.calls (k : Nat) (a0 : ByteArray) (a1 : Int) (r : Bool) (w : World) (h : glob_one.f k a0 a1 = some r) :
    Calls Tryd.prog 27 #[.string a0, .int .u8 a1] w fun e w' => e = .returned (.bool r) ∧ Drawn0 w w' := by
  have H : (if 0 < (a0.size : Int) then (if (bt a0 0) = 63 then (some true) else (if (bt a0 0) = 91 then (if 1 ≤ (wrap64 ((a0.size : Int) - 1)) then (if (wrap64 ((a0.size : Int) - 1)) ≤ (a0.size : Int) then ((glob_among.f k (a0.extract 1 ((wrap64 ((a0.size : Int) - 1)) : Int).toNat) a1).bind fun t119 => (some t119)) else (none)) else (none)) else (if 0 ≤ (wrap64 ((a0.size : Int) - 1)) then (if (wrap64 ((a0.size : Int) - 1)) < (a0.size : Int) then (some ((bt a0 (wrap64 ((a0.size : Int) - 1))) == a1)) else (none)) else (none)))) else (none)) = some r := h
  clear h
  by_cases c3 : 0 < (a0.size : Int)
  · rw [if_pos c3] at H
    have c3b0 : decide (0 < (a0.size : Int)) = true := decide_eq_true c3
    have c3b1 : decide (0 < a0.size) = true := decide_eq_true (by omega)
    clear c3
    by_cases c5 : (bt a0 0) = 63
    · rw [if_pos c5] at H
      have c5b0 : ((bt a0 0) == 63) = true := beq_iff_eq.mpr c5
      have c5b1 : ((bt a0 0) != 63) = false := bne_eq_false_iff_eq.mpr c5
      clear c5
      obtain rfl := Option.some.inj H
      have p4 : 0 ≤ (0 : Int) := (by omega)
      have q4 : 0 < a0.size := (by have : (0 : Int) < (a0.size : Int) := of_decide_eq_true (by first | (with_reducible assumption) | assumption); omega)
      have hx4 : ∀ h : 0 < a0.size, ((a0[0]'h).toNat : Int) = bt a0 0 := bt_at a0 0
      clear p4
      have qi4 : (0 < (a0.size : Int)) = True := eq_true (of_decide_eq_true (by first | (with_reducible assumption) | assumption))
      replace q4 := eq_true q4
      go_enter Tryd.func27, Tryd.ntmps27
      go_wp2
      go_ret
      exact ⟨by first | rfl | (simp; done) | (simp [*]; done), by repeat (first | exact Drawn0.refl _ | apply Drawn0.step)⟩
    · rw [if_neg c5] at H
      have c5b0 : ((bt a0 0) == 63) = false := beq_eq_false_iff_ne.mpr c5
      have c5b1 : ((bt a0 0) != 63) = true := bne_iff_ne.mpr c5
      by_cases c6 : (bt a0 0) = 91
      · rw [if_pos c6] at H
        have c6b0 : ((bt a0 0) == 91) = true := beq_iff_eq.mpr c6
        have c6b1 : ((bt a0 0) != 91) = false := bne_eq_false_iff_eq.mpr c6
        clear c6
        by_cases c7 : 1 ≤ (wrap64 ((a0.size : Int) - 1))
        · rw [if_pos c7] at H
          have c7b0 := eq_true c7
          have c7b1 : decide (1 ≤ (wrap64 ((a0.size : Int) - 1))) = true := decide_eq_true c7
          clear c7
          by_cases c8 : (wrap64 ((a0.size : Int) - 1)) ≤ (a0.size : Int)
          · rw [if_pos c8] at H
            have c8b0 := eq_true c8
            have c8b1 : decide ((wrap64 ((a0.size : Int) - 1)) ≤ (a0.size : Int)) = true := decide_eq_true c8
            clear c8
            replace H := Option.bind_eq_some_iff.mp H
            obtain ⟨t119, A90, H⟩ := H
            replace H : (some t119) = some r := H
            have A9 := Aside0.mk A90
            clear A90
            obtain rfl := Option.some.inj H
            have p4 : 0 ≤ (0 : Int) := (by omega)
            have q4 : 0 < a0.size := (by have : (0 : Int) < (a0.size : Int) := of_decide_eq_true (by first | (with_reducible assumption) | assumption); omega)
            have hx4 : ∀ h : 0 < a0.size, ((a0[0]'h).toNat : Int) = bt a0 0 := bt_at a0 0
            clear p4
            have qi4 : (0 < (a0.size : Int)) = True := eq_true (of_decide_eq_true (by first | (with_reducible assumption) | assumption))
            replace q4 := eq_true q4
            go_enter Tryd.func27, Tryd.ntmps27
            go_wp2_with (first | ((with_reducible refine gate_callee (f := 36) rfl ?_); refine goesL_ (some 17) rfl rfl Tryd.func36 (by kernel_rfl) rfl #[.string (a0.extract 1 ((wrap64 ((a0.size : Int) - 1)) : Int).toNat), .int .u8 a1] rfl (by (try simp only [List.map_toArray, List.map_cons, List.map_nil]); first | done | rfl | (simp only [List.length_drop, List.length_take]; rfl)) ?_; (with_reducible refine (glob_among.calls k (a0.extract 1 ((wrap64 ((a0.size : Int) - 1)) : Int).toNat) a1 t119 _ A9.out).mono ?_); rintro e w' ⟨rfl, ⟨nd, rfl⟩⟩; refine ⟨_, rfl, ?_⟩))
            go_ret
            exact ⟨by first | rfl | (simp; done) | (simp [*]; done), by repeat (first | exact Drawn0.refl _ | apply Drawn0.step)⟩
          · rw [if_neg c8] at H
            exact absurd H (by simp)
        · rw [if_neg c7] at H
          exact absurd H (by simp)
      · rw [if_neg c6] at H
        have c6b0 : ((bt a0 0) == 91) = false := beq_eq_false_iff_ne.mpr c6
        have c6b1 : ((bt a0 0) != 91) = true := bne_iff_ne.mpr c6
        obtain ⟨ji10, hji10⟩ : ∃ j_ : Int, (wrap64 ((a0.size : Int) - 1)) = j_ := ⟨_, rfl⟩
        replace H : (if 0 ≤ (ji10) then (if (ji10) < (a0.size : Int) then (some ((bt a0 (ji10)) == a1)) else (none)) else (none)) = some r := by first | (rw [hji10] at H; exact H) | (simp only [hji10] at H ⊢; exact H)
        have hji10w : (IntKind.i64.wrap ((a0.size : Int) - 1)) = ji10 := (i64_w _).trans hji10
        by_cases c11 : 0 ≤ (ji10)
        · rw [if_pos c11] at H
          have c11b0 : decide (0 ≤ (ji10)) = true := decide_eq_true c11
          clear c11
          by_cases c12 : (ji10) < (a0.size : Int)
          · rw [if_pos c12] at H
            have c12b0 : decide ((ji10) < (a0.size : Int)) = true := decide_eq_true c12
            clear c12
            obtain rfl := Option.some.inj H
            have p4 : 0 ≤ (0 : Int) := (by omega)
            have q4 : 0 < a0.size := (by have : (0 : Int) < (a0.size : Int) := of_decide_eq_true (by first | (with_reducible assumption) | assumption); omega)
            have hx4 : ∀ h : 0 < a0.size, ((a0[0]'h).toNat : Int) = bt a0 0 := bt_at a0 0
            clear p4
            have qi4 : (0 < (a0.size : Int)) = True := eq_true (of_decide_eq_true (by first | (with_reducible assumption) | assumption))
            replace q4 := eq_true q4
            have p13 : 0 ≤ ((ji10) : Int) := of_decide_eq_true (by first | (with_reducible assumption) | assumption)
            have q13 : (ji10) < (a0.size : Int) := of_decide_eq_true (by first | (with_reducible assumption) | assumption)
            have hx13 := bt_at a0 (ji10)
            replace p13 := eq_true p13
            replace q13 := eq_true q13
            go_enter Tryd.func27, Tryd.ntmps27
            go_wp2
            go_ret
            exact ⟨by first | rfl | (simp; done) | (simp only [← hji10] <;> (first | rfl | simp)) | (simp [*]; done), by repeat (first | exact Drawn0.refl _ | apply Drawn0.step)⟩
          · rw [if_neg c12] at H
            exact absurd H (by simp)
        · rw [if_neg c11] at H
          exact absurd H (by simp)
  · rw [if_neg c3] at H
    exact absurd H (by simp)

/-! ### GStar: a call with a constant function -/
def GStar.l0 : List ByteArray → Bool
  | [] => false
  | x :: r => if x.toList != [42] then true else GStar.l0 r
def GStar.f (l0 : List ByteArray) : Option (Bool) := some (GStar.l0 l0)
set_option maxHeartbeats 2000000 in
theorem GStar.one (x : ByteArray) (w : World) : Calls Tryd.prog 28 #[.string x] w fun e w' => e = .returned (.bool (x.toList != [42])) ∧ Drawn0 w w' := by
  go_enter Tryd.func28, Tryd.ntmps28
  go_wp2
  go_ret
  exact ⟨by first | rfl | simp, Drawn0.refl _⟩
set_option maxHeartbeats 2000000 in
set_option maxRecDepth 100000 in
theorem GStar.index (A0 : Option Addr) (c0 : Nat) (l0 : List ByteArray) (w : World) (hr0 : Kd.C Kd.string w A0 l0.length l0) :
    Calls Tryd.prog 33 #[.slice A0 l0.length c0, .func (.func 28) #[] #[]] w fun e w' => (∃ i : Int, e = .returned (.int .i64 i) ∧ (i = -1 ∨ 0 ≤ i) ∧ GStar.l0 l0 = decide (0 ≤ i)) ∧ Drawn0 w w' := by
  have HR := Aside0.mk hr0
  have hmax := hr0.2.1
  clear hr0
  obtain ⟨r, H⟩ : ∃ r, Aside0 (GStar.l0 l0 = r) := ⟨_, ⟨rfl⟩⟩
  rw [H.out]
  go_enter Tryd.func33, Tryd.ntmps33
  go_wp2
  go_loopg [8] l0.length (fun kq v8 wx => ∃ i : Nat, v8 = .int .i64 (i : Int) ∧ i ≤ l0.length ∧ l0.length ≤ i + kq ∧ Aside0 (GStar.l0 (l0.drop i) = r) ∧ ∃ m, wx = w.drewN m)
  case atStart => exact ⟨0, rfl, Nat.zero_le _, by omega, H, 0, rfl⟩
  case round =>
    obtain ⟨i, rfl, hi, hfu, HA, m, rfl⟩ := hrel
    by_cases hlt : i < l0.length
    · obtain ⟨k1, rfl⟩ : ∃ k1, gk = k1 + 1 := ⟨gk - 1, by omega⟩
      have hd : l0.drop i = l0[i] :: l0.drop (i + 1) := List.drop_eq_getElem_cons hlt
      have hh := HA.out
      rw [hd] at hh
      simp only [GStar.l0] at hh
      clear HA hd
      have hltI : decide ((i : Int) < (l0.length : Int)) = true := decide_eq_true (by omega)
      have p1 : 0 ≤ (i : Int) := by omega
      have q1 : (i : Int) < (l0.length : Int) := by omega
      obtain ⟨ad, e1, hx⟩ := Kd.at_string HR.out (i : Int) p1 q1
      cases e1
      have hv : rdOf ByteArray.empty l0 (i : Int) = l0[i] := by
        simp [rdOf, hlt]
      rw [hv, Int.toNat_natCast] at hx
      generalize l0[i] = X at *
      have hwr : wrap64 ((i : Int) + 1) = ((i + 1 : Nat) : Int) := by
        simp only [wrap64, IntKind.wrap]
        omega
      have c := fun W => GStar.one X W
      obtain ⟨t, ht⟩ : ∃ t, (X.toList != [42]) = t := ⟨_, rfl⟩
      rw [ht] at c hh
      have C := Aside0.mk c
      have HH := Aside0.mk hh
      clear c hh ht
      replace p1 := eq_true p1
      replace q1 := eq_true q1
      cases t with
      | true =>
        go_wp2_with (go_at_call 28; (with_reducible refine (C.out _).mono ?_); rintro e w' ⟨rfl, nd, rfl⟩)
        go_ret
        have hr := HH.out
        have : r = true := by simpa using hr.symm
        subst this
        exact ⟨⟨(i : Int), rfl, Or.inr (by omega), by simp⟩, ⟨m + nd, rfl⟩⟩
      | false =>
        go_wp2_with (go_at_call 28; (with_reducible refine (C.out _).mono ?_); rintro e w' ⟨rfl, nd, rfl⟩)
        go_roundg k1
        case measure => omega
        case rel => exact ⟨i + 1, by first | rfl | (rw [hwr]; done), by omega, by omega, ⟨by simpa using HH.out⟩, m + nd, rfl⟩
    · have hltI : decide ((i : Int) < (l0.length : Int)) = false := decide_eq_false (by omega)
      have hh := HA.out
      rw [List.drop_eq_nil_of_le (by omega)] at hh
      have : r = false := by simpa [GStar.l0] using hh.symm
      subst this
      go_wp2
      go_ret
      exact ⟨⟨-1, rfl, Or.inl rfl, by decide⟩, ⟨m, rfl⟩⟩
theorem GStar.calls (A0 : Option Addr) (c0 : Nat) (l0 : List ByteArray) (r : Bool) (w : World) (hr0 : Kd.C Kd.string w A0 l0.length l0) (_hc0 : l0.length ≤ c0) (h : GStar.f l0 = some r) :
    Calls Tryd.prog 22 #[.slice A0 l0.length c0, .func (.func 28) #[] #[]] w fun e w' => e = .returned (.bool r) ∧ Below w.heap.size w w' := by
  have c := GStar.index A0 c0 l0 w hr0
  rw [show GStar.l0 l0 = r from Option.some.inj h] at c
  have C := Aside0.mk c
  clear hr0 h c
  generalize l0.length = n at *
  go_enter Tryd.func22, Tryd.ntmps22
  go_wp2_with (go_at_call 33; (with_reducible refine C.out.mono ?_); rintro e w' ⟨⟨i, rfl, hi, rfl⟩, nd, rfl⟩)
  go_ret
  exact ⟨rfl, (show Drawn0 w (w.drewN nd) from ⟨nd, rfl⟩).below⟩
end Go.Proofs.YtefomcoimbnalaaDoor.GGlb
