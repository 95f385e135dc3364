/- printed for this claim by gprint.py, a program of this session, that drives the kit's printer. -/
import Derived.Test.YtefomcoimbnalaaDoorGGlbx0
import Derived.Test.YtefomcoimbnalaaDoorGGlbx1
import Derived.Test.YtefomcoimbnalaaDoorGGlbx2
namespace Go.Proofs.YtefomcoimbnalaaDoor.GGlb
open Go.RowKit Go.Proofs.YtefomcoimbnalaaDoorW.PrintWords Go.Proofs.YtefomcoimbnalaaDoorW.PrintLast Go.Proofs.YtefomcoimbnalaaDoorW.PrintMore
attribute [local go_sem] max2_int min2_int max_two min_two max_three min_three max_four min_four   -- for this text's walks alone
set_option linter.unusedVariables false
set_option linter.unusedSimpArgs false

/-! ### glob_match: function 16 -/
mutual
def glob_match.l0 : Nat → List ByteArray → ByteArray → Int → Int → Int → Int → Option (Bool)
  | 0, _, _, _, _, _, _ => none
  | k + 1, x0, x1, x5, x6, x7, x8 => if x6 < (x1.size : Int) then (if x5 < (x0.length : Int) then (if 0 ≤ x5 then (glob_match.j1 k x0 x1 x5 x6 x7 x8 ((rdOf ByteArray.empty x0 x5).toList == ([42] : List UInt8))) else (none)) else (glob_match.j1 k x0 x1 x5 x6 x7 x8 false)) else (if 0 ≤ x5 then (if x5 ≤ (x0.length : Int) then ((GStar.f (x0.drop (x5 : Int).toNat)).bind fun t121 => (some (!t121))) else (none)) else (none))
def glob_match.j1 : Nat → List ByteArray → ByteArray → Int → Int → Int → Int → Bool → Option (Bool)
  | 0, _, _, _, _, _, _, _ => none
  | k + 1, x0, x1, x5, x6, x7, x8, x13 => if x13 = true then (glob_match.l0 k x0 x1 (wrap64 (x5 + 1)) x6 x5 x6) else (if x5 < (x0.length : Int) then (if 0 ≤ x5 then (if 0 ≤ x6 then (if x6 < (x1.size : Int) then ((glob_one.f k (rdOf ByteArray.empty x0 x5) (bt x1 x6)).bind fun t124 => (glob_match.j2 k x0 x1 x5 x6 x7 x8 t124)) else (none)) else (none)) else (none)) else (glob_match.j2 k x0 x1 x5 x6 x7 x8 false))
def glob_match.j2 : Nat → List ByteArray → ByteArray → Int → Int → Int → Int → Bool → Option (Bool)
  | 0, _, _, _, _, _, _, _ => none
  | k + 1, x0, x1, x5, x6, x7, x8, x29 => if x29 = true then (glob_match.l0 k x0 x1 (wrap64 (x5 + 1)) (wrap64 (x6 + 1)) x7 x8) else (if x7 ≥ 0 then (glob_match.l0 k x0 x1 (wrap64 (x7 + 1)) (wrap64 (x8 + 1)) x7 (wrap64 (x8 + 1))) else (some false))
end
def glob_match.f (k : Nat) (l0 : List ByteArray) (a1 : ByteArray) : Option (Bool) := glob_match.l0 k l0 a1 0 0 (-1) 0
theorem glob_match.mono_l : ∀ k, (∀ y0 y1 y2 y3 y4 y5, LeO (glob_match.l0 k y0 y1 y2 y3 y4 y5) (glob_match.l0 (k + 1) y0 y1 y2 y3 y4 y5)) ∧ (∀ y0 y1 y2 y3 y4 y5 y6, LeO (glob_match.j1 k y0 y1 y2 y3 y4 y5 y6) (glob_match.j1 (k + 1) y0 y1 y2 y3 y4 y5 y6)) ∧ (∀ y0 y1 y2 y3 y4 y5 y6, LeO (glob_match.j2 k y0 y1 y2 y3 y4 y5 y6) (glob_match.j2 (k + 1) y0 y1 y2 y3 y4 y5 y6))
  | 0 => ⟨fun _ _ _ _ _ _ r h => by simp [glob_match.l0] at h, fun _ _ _ _ _ _ _ r h => by simp [glob_match.j1] at h, fun _ _ _ _ _ _ _ r h => by simp [glob_match.j2] at h⟩
  | k + 1 => by
    obtain ⟨ih0, ih1, ih2⟩ := glob_match.mono_l k
    refine ⟨?_, ?_, ?_⟩
    · intro y0 y1 y2 y3 y4 y5
      unfold glob_match.l0
      repeat' first
      | (with_reducible exact ih0 _ _ _ _ _ _)
      | (with_reducible exact ih1 _ _ _ _ _ _ _)
      | (with_reducible exact ih2 _ _ _ _ _ _ _)
      | (with_reducible exact glob_one.mono _ _ _)
      | (with_reducible exact LeO.refl _)
      | (with_reducible exact LeO.none _)
      | (with_reducible refine LeO.ite ?_ ?_)
      | (with_reducible refine LeO.bind ?_ (fun _ => ?_))
      | exact ih0 _ _ _ _ _ _
      | exact ih1 _ _ _ _ _ _ _
      | exact ih2 _ _ _ _ _ _ _
      | exact glob_one.mono _ _ _
      | exact LeO.none _
      | refine LeO.ite ?_ ?_
      | refine LeO.bind ?_ (fun _ => ?_)
    · intro y0 y1 y2 y3 y4 y5 y6
      unfold glob_match.j1
      repeat' first
      | (with_reducible exact ih0 _ _ _ _ _ _)
      | (with_reducible exact ih1 _ _ _ _ _ _ _)
      | (with_reducible exact ih2 _ _ _ _ _ _ _)
      | (with_reducible exact glob_one.mono _ _ _)
      | (with_reducible exact LeO.refl _)
      | (with_reducible exact LeO.none _)
      | (with_reducible refine LeO.ite ?_ ?_)
      | (with_reducible refine LeO.bind ?_ (fun _ => ?_))
      | exact ih0 _ _ _ _ _ _
      | exact ih1 _ _ _ _ _ _ _
      | exact ih2 _ _ _ _ _ _ _
      | exact glob_one.mono _ _ _
      | exact LeO.none _
      | refine LeO.ite ?_ ?_
      | refine LeO.bind ?_ (fun _ => ?_)
    · intro y0 y1 y2 y3 y4 y5 y6
      unfold glob_match.j2
      repeat' first
      | (with_reducible exact ih0 _ _ _ _ _ _)
      | (with_reducible exact ih1 _ _ _ _ _ _ _)
      | (with_reducible exact ih2 _ _ _ _ _ _ _)
      | (with_reducible exact glob_one.mono _ _ _)
      | (with_reducible exact LeO.refl _)
      | (with_reducible exact LeO.none _)
      | (with_reducible refine LeO.ite ?_ ?_)
      | (with_reducible refine LeO.bind ?_ (fun _ => ?_))
      | exact ih0 _ _ _ _ _ _
      | exact ih1 _ _ _ _ _ _ _
      | exact ih2 _ _ _ _ _ _ _
      | exact glob_one.mono _ _ _
      | exact LeO.none _
      | refine LeO.ite ?_ ?_
      | refine LeO.bind ?_ (fun _ => ?_)
theorem glob_match.mono : ∀ a0 a1 k, LeO (glob_match.f k a0 a1) (glob_match.f (k + 1) a0 a1) := by
  intro a0 a1 k
  obtain ⟨ih0, ih1, ih2⟩ := glob_match.mono_l k
  unfold glob_match.f
  repeat' first
      | (with_reducible exact ih0 _ _ _ _ _ _)
      | (with_reducible exact ih1 _ _ _ _ _ _ _)
      | (with_reducible exact ih2 _ _ _ _ _ _ _)
      | (with_reducible exact glob_one.mono _ _ _)
      | (with_reducible exact LeO.refl _)
      | (with_reducible exact LeO.none _)
      | (with_reducible refine LeO.ite ?_ ?_)
      | (with_reducible refine LeO.bind ?_ (fun _ => ?_))
      | exact ih0 _ _ _ _ _ _
      | exact ih1 _ _ _ _ _ _ _
      | exact ih2 _ _ _ _ _ _ _
      | exact glob_one.mono _ _ _
      | exact LeO.none _
      | refine LeO.ite ?_ ?_
      | refine LeO.bind ?_ (fun _ => ?_)
set_option maxHeartbeats 8000000 in
set_option maxRecDepth 100000 in
theorem glob_match.calls (k : Nat) (A0 : Option Addr) (c0 : Nat) (l0 : List ByteArray) (a1 : ByteArray) (r : Bool) (w : World) (hr0 : Kd.C Kd.string w A0 l0.length l0) (hc0 : l0.length ≤ c0) (h : glob_match.f k l0 a1 = some r) :
    Calls Tryd.prog 16 #[.slice A0 l0.length c0, .string a1] w fun e w' => e = .returned (.bool r) ∧ Below w.heap.size w w' := by
  have HR0 := Aside0.mk hr0
  have HC0 := Aside0.mk hc0
  clear hr0 hc0
  have HB := Aside0.mk (Below.refl w.heap.size w)
  have H : (glob_match.l0 k l0 a1 0 0 (-1) 0) = some r := h
  clear h
  have H' := Aside0.mk H
  clear H
  go_enter Tryd.func16, Tryd.ntmps16
  go_wp2
  repeat (go_quiet (fail); try go_wp2)
  go_loopg [5, 6, 7, 8] k (fun kq v5 v6 v7 v8 w' => ∃ (x5_1 : Int) (x6_1 : Int) (x7_1 : Int) (x8_1 : Int), v5 = .int .i64 x5_1 ∧ v6 = .int .i64 x6_1 ∧ v7 = .int .i64 x7_1 ∧ v8 = .int .i64 x8_1 ∧ Aside0 (glob_match.l0 kq l0 a1 x5_1 x6_1 x7_1 x8_1 = some r) ∧ Aside0 (kq ≤ k) ∧ Aside0 (Below w.heap.size w w'))
  case atStart => exact ⟨(0), (0), ((-1)), (0), (by first | rfl | (simp; done) | (simp [*]; done) | exact gw_ne _ | exact gw_eq _), (by first | rfl | (simp; done) | (simp [*]; done) | exact gw_ne _ | exact gw_eq _), (by first | rfl | (simp; done) | (simp [*]; done) | exact gw_ne _ | exact gw_eq _), (by first | rfl | (simp; done) | (simp [*]; done) | exact gw_ne _ | exact gw_eq _), H', ⟨Nat.le_refl _⟩, ⟨by repeat (first | (with_reducible first | exact HB.out | apply below_alloc | apply pw_below_drewN | apply below_drew1) | exact HB.out)⟩⟩
  case round =>
    clear H'
    try clear c1
    try clear p2
    obtain ⟨x5_1, x6_1, x7_1, x8_1, rfl, rfl, rfl, rfl, HA, HK1, HB⟩ := hrel
    cases gk with
    | zero => exact absurd HA.out (by simp [glob_match.l0])
    | succ k1 =>
      have H := HA.out
      clear HA
      simp only [glob_match.l0] at H
      by_cases c3 : x6_1 < (a1.size : Int)
      · rw [if_pos c3] at H
        have c3b0 : decide (x6_1 < (a1.size : Int)) = true := decide_eq_true c3
        clear c3
        have HC4 := Aside0.mk H
        clear H
        go_upto_region 4 with (fail)
        repeat (go_quiet (fail); go_upto_region 4 with (fail))
        go_cut [13] (fun v13 wc => ∃ (kq : Nat) (x13_3 : Bool), v13 = .bool x13_3 ∧ Aside0 (glob_match.j1 kq l0 a1 x5_1 x6_1 x7_1 x8_1 x13_3 = some r) ∧ Aside0 (kq ≤ k1) ∧ Aside0 (Below w.heap.size w wc))
        case first =>
          have H := HC4.out
          clear HC4
          by_cases c5 : x5_1 < (l0.length : Int)
          · rw [if_pos c5] at H
            have c5b0 : decide (x5_1 < (l0.length : Int)) = true := decide_eq_true c5
            clear c5
            (first | rw [c5b0] | (simp only [i64_w, i32_w]; rw [c5b0]) | skip)
            by_cases c6 : 0 ≤ x5_1
            · rw [if_pos c6] at H
              have c6b0 : decide (0 ≤ x5_1) = true := decide_eq_true c6
              clear c6
              have H' := Aside0.mk H
              clear H
              have p122 : 0 ≤ (x5_1 : Int) := of_decide_eq_true (by first | (with_reducible assumption) | assumption)
              have q122 : x5_1 < (l0.length : Int) := of_decide_eq_true (by first | (with_reducible assumption) | assumption)
              obtain ⟨ad122, e122, hx122_0⟩ := Kd.at_string HR0.out x5_1 p122 q122
              cases e122
              replace hx122_0 := (HB.out.cell (World.block_lt_of_cell? w _ hx122_0)).trans hx122_0
              replace p122 := eq_true p122
              replace q122 := eq_true q122
              go_wp2
              repeat (go_quiet (fail); try go_wp2)
              go_meet
              case rel => exact ⟨_, (((rdOf ByteArray.empty l0 x5_1).toList == ([42] : List UInt8))), (by first | rfl | (simp; done) | (simp [*]; done) | exact gw_ne _ | exact gw_eq _), H', ⟨by have := HK1.out; first | omega | exact Nat.le_refl _⟩, ⟨by repeat (first | (with_reducible first | exact HB.out | apply below_alloc | apply pw_below_drewN | apply below_drew1) | exact HB.out)⟩⟩
            · rw [if_neg c6] at H
              exact absurd H (by simp)
          · rw [if_neg c5] at H
            have c5b0 : decide (x5_1 < (l0.length : Int)) = false := decide_eq_false c5
            clear c5
            (first | rw [c5b0] | (simp only [i64_w, i32_w]; rw [c5b0]) | skip)
            have H' := Aside0.mk H
            clear H
            go_wp2
            repeat (go_quiet (fail); try go_wp2)
            go_meet
            case rel => exact ⟨_, (false), (by first | rfl | (simp; done) | (simp [*]; done) | exact gw_ne _ | exact gw_eq _), H', ⟨by have := HK1.out; first | omega | exact Nat.le_refl _⟩, ⟨by repeat (first | (with_reducible first | exact HB.out | apply below_alloc | apply pw_below_drewN | apply below_drew1) | exact HB.out)⟩⟩
        case rest =>
          clear HC4
          try clear c1
          try clear p1
          try clear q1
          try clear hx1
          try clear p2
          try clear c3
          try clear c3b0
          try clear c5
          try clear c5b0
          try clear c6
          try clear c6b0
          try clear hx122_0
          try clear p122
          try clear p2
          try clear q122
          obtain ⟨kq, x13_3, rfl, HA, HJ3, HB⟩ := hcut
          cases kq with
          | zero => exact absurd HA.out (by simp [glob_match.j1])
          | succ kj3 =>
            have H := HA.out
            clear HA
            simp only [glob_match.j1] at H
            by_cases c7 : x13_3 = true
            · subst c7
              have H1 : (glob_match.l0 kj3 l0 a1 (wrap64 (x5_1 + 1)) x6_1 x5_1 x6_1) = some r := by rw [if_pos rfl] at H; exact H
              clear H
              have H := H1
              clear H1
              have H' := Aside0.mk H
              clear H
              go_wp2
              repeat (go_quiet (fail); try go_wp2)
              go_roundg kj3
              case measure => have := HK1.out; have := HJ3.out; omega
              case rel => exact ⟨(wrap64 (x5_1 + 1)), (x6_1), (x5_1), (x6_1), (by first | rfl | (simp; done) | (simp [*]; done) | exact gw_ne _ | exact gw_eq _), (by first | rfl | (simp; done) | (simp [*]; done) | exact gw_ne _ | exact gw_eq _), (by first | rfl | (simp; done) | (simp [*]; done) | exact gw_ne _ | exact gw_eq _), (by first | rfl | (simp; done) | (simp [*]; done) | exact gw_ne _ | exact gw_eq _), H', ⟨by have := HK1.out; have := HJ3.out; omega⟩, ⟨by repeat (first | (with_reducible first | exact HB.out | apply below_alloc | apply pw_below_drewN | apply below_drew1) | exact HB.out)⟩⟩
            · replace c7 := Bool.eq_false_iff.mpr c7
              subst c7
              have H1 : (if x5_1 < (l0.length : Int) then (if 0 ≤ x5_1 then (if 0 ≤ x6_1 then (if x6_1 < (a1.size : Int) then ((glob_one.f kj3 (rdOf ByteArray.empty l0 x5_1) (bt a1 x6_1)).bind fun t124 => (glob_match.j2 kj3 l0 a1 x5_1 x6_1 x7_1 x8_1 t124)) else (none)) else (none)) else (none)) else (glob_match.j2 kj3 l0 a1 x5_1 x6_1 x7_1 x8_1 false)) = some r := by rw [if_neg (show ¬ (false = true) by decide)] at H; exact H
              clear H
              have H := H1
              clear H1
              have HC8 := Aside0.mk H
              clear H
              go_upto_region 7 with (fail)
              repeat (go_quiet (fail); go_upto_region 7 with (fail))
              go_cut [29] (fun v29 wc => ∃ (kq : Nat) (x29_7 : Bool), v29 = .bool x29_7 ∧ Aside0 (glob_match.j2 kq l0 a1 x5_1 x6_1 x7_1 x8_1 x29_7 = some r) ∧ Aside0 (kq ≤ kj3) ∧ Aside0 (Below w.heap.size w wc))
              case first =>
                have H := HC8.out
                clear HC8
                by_cases c9 : x5_1 < (l0.length : Int)
                · rw [if_pos c9] at H
                  have c9b0 : decide (x5_1 < (l0.length : Int)) = true := decide_eq_true c9
                  clear c9
                  (first | rw [c9b0] | (simp only [i64_w, i32_w]; rw [c9b0]) | skip)
                  by_cases c10 : 0 ≤ x5_1
                  · rw [if_pos c10] at H
                    have c10b0 : decide (0 ≤ x5_1) = true := decide_eq_true c10
                    clear c10
                    by_cases c11 : 0 ≤ x6_1
                    · rw [if_pos c11] at H
                      have c11b0 : decide (0 ≤ x6_1) = true := decide_eq_true c11
                      clear c11
                      by_cases c12 : x6_1 < (a1.size : Int)
                      · rw [if_pos c12] at H
                        have c12b0 : decide (x6_1 < (a1.size : Int)) = true := decide_eq_true c12
                        clear c12
                        replace H := Option.bind_eq_some_iff.mp H
                        obtain ⟨t124, A140, H⟩ := H
                        replace H : (glob_match.j2 kj3 l0 a1 x5_1 x6_1 x7_1 x8_1 t124) = some r := H
                        have A14 := Aside0.mk A140
                        clear A140
                        have H' := Aside0.mk H
                        clear H
                        have p123 : 0 ≤ (x5_1 : Int) := of_decide_eq_true (by first | (with_reducible assumption) | assumption)
                        have q123 : x5_1 < (l0.length : Int) := of_decide_eq_true (by first | (with_reducible assumption) | assumption)
                        obtain ⟨ad123, e123, hx123_0⟩ := Kd.at_string HR0.out x5_1 p123 q123
                        cases e123
                        replace hx123_0 := (HB.out.cell (World.block_lt_of_cell? w _ hx123_0)).trans hx123_0
                        replace p123 := eq_true p123
                        replace q123 := eq_true q123
                        have p13 : 0 ≤ (x6_1 : Int) := of_decide_eq_true (by first | (with_reducible assumption) | assumption)
                        have q13 : x6_1 < (a1.size : Int) := of_decide_eq_true (by first | (with_reducible assumption) | assumption)
                        have hx13 := bt_at a1 x6_1
                        replace p13 := eq_true p13
                        replace q13 := eq_true q13
                        go_wp2_with (first | (go_at_call 27; (with_reducible refine (glob_one.calls kj3 (rdOf ByteArray.empty l0 x5_1) (bt a1 x6_1) t124 _ A14.out).mono ?_); rintro e w' ⟨rfl, ⟨nd, rfl⟩⟩; (try first | exact ⟨rfl, _, World.drewN_drewN _ _ _⟩ | exact ⟨rfl, _, Eq.trans (World.drewN_drewN _ _ _) (congrArg (World.drewN _) (Nat.add_assoc _ _ _))⟩)))
                        repeat (go_quiet (first | (go_at_call 27; (with_reducible refine (glob_one.calls kj3 (rdOf ByteArray.empty l0 x5_1) (bt a1 x6_1) t124 _ A14.out).mono ?_); rintro e w' ⟨rfl, ⟨nd, rfl⟩⟩; (try first | exact ⟨rfl, _, World.drewN_drewN _ _ _⟩ | exact ⟨rfl, _, Eq.trans (World.drewN_drewN _ _ _) (congrArg (World.drewN _) (Nat.add_assoc _ _ _))⟩))); try go_wp2_with (first | (go_at_call 27; (with_reducible refine (glob_one.calls kj3 (rdOf ByteArray.empty l0 x5_1) (bt a1 x6_1) t124 _ A14.out).mono ?_); rintro e w' ⟨rfl, ⟨nd, rfl⟩⟩; (try first | exact ⟨rfl, _, World.drewN_drewN _ _ _⟩ | exact ⟨rfl, _, Eq.trans (World.drewN_drewN _ _ _) (congrArg (World.drewN _) (Nat.add_assoc _ _ _))⟩))))
                        go_meet
                        case rel => exact ⟨_, (t124), (by first | rfl | (simp; done) | (simp [*]; done) | exact gw_ne _ | exact gw_eq _), H', ⟨by have := HK1.out; have := HJ3.out; first | omega | exact Nat.le_refl _⟩, ⟨by repeat (first | (with_reducible first | exact HB.out | apply below_alloc | apply pw_below_drewN | apply below_drew1) | exact HB.out)⟩⟩
                      · rw [if_neg c12] at H
                        exact absurd H (by simp)
                    · rw [if_neg c11] at H
                      exact absurd H (by simp)
                  · rw [if_neg c10] at H
                    exact absurd H (by simp)
                · rw [if_neg c9] at H
                  have c9b0 : decide (x5_1 < (l0.length : Int)) = false := decide_eq_false c9
                  clear c9
                  (first | rw [c9b0] | (simp only [i64_w, i32_w]; rw [c9b0]) | skip)
                  have H' := Aside0.mk H
                  clear H
                  go_wp2
                  repeat (go_quiet (fail); try go_wp2)
                  go_meet
                  case rel => exact ⟨_, (false), (by first | rfl | (simp; done) | (simp [*]; done) | exact gw_ne _ | exact gw_eq _), H', ⟨by have := HK1.out; have := HJ3.out; first | omega | exact Nat.le_refl _⟩, ⟨by repeat (first | (with_reducible first | exact HB.out | apply below_alloc | apply pw_below_drewN | apply below_drew1) | exact HB.out)⟩⟩
              case rest =>
                clear HC8
                try clear c1
                try clear p1
                try clear q1
                try clear hx1
                try clear p2
                try clear c3
                try clear c3b0
                try clear c5
                try clear c5b0
                try clear c6
                try clear c6b0
                try clear p6
                try clear c7
                try clear c9
                try clear c9b0
                try clear c10
                try clear c10b0
                try clear c11
                try clear c11b0
                try clear c12
                try clear c12b0
                try clear p12
                try clear q12
                try clear hx12
                try clear p13
                try clear q13
                try clear hx13
                try clear hx122_0
                try clear hx123_0
                try clear p1
                try clear p122
                try clear p123
                try clear p13
                try clear p2
                try clear q1
                try clear q122
                try clear q123
                try clear q13
                obtain ⟨kq, x29_7, rfl, HA, HJ7, HB⟩ := hcut
                cases kq with
                | zero => exact absurd HA.out (by simp [glob_match.j2])
                | succ kj7 =>
                  have H := HA.out
                  clear HA
                  simp only [glob_match.j2] at H
                  by_cases c15 : x29_7 = true
                  · subst c15
                    have H1 : (glob_match.l0 kj7 l0 a1 (wrap64 (x5_1 + 1)) (wrap64 (x6_1 + 1)) x7_1 x8_1) = some r := by rw [if_pos rfl] at H; exact H
                    clear H
                    have H := H1
                    clear H1
                    have H' := Aside0.mk H
                    clear H
                    go_wp2
                    repeat (go_quiet (fail); try go_wp2)
                    go_roundg kj7
                    case measure => have := HK1.out; have := HJ3.out; have := HJ7.out; omega
                    case rel => exact ⟨(wrap64 (x5_1 + 1)), (wrap64 (x6_1 + 1)), (x7_1), (x8_1), (by first | rfl | (simp; done) | (simp [*]; done) | exact gw_ne _ | exact gw_eq _), (by first | rfl | (simp; done) | (simp [*]; done) | exact gw_ne _ | exact gw_eq _), (by first | rfl | (simp; done) | (simp [*]; done) | exact gw_ne _ | exact gw_eq _), (by first | rfl | (simp; done) | (simp [*]; done) | exact gw_ne _ | exact gw_eq _), H', ⟨by have := HK1.out; have := HJ3.out; have := HJ7.out; omega⟩, ⟨by repeat (first | (with_reducible first | exact HB.out | apply below_alloc | apply pw_below_drewN | apply below_drew1) | exact HB.out)⟩⟩
                  · replace c15 := Bool.eq_false_iff.mpr c15
                    subst c15
                    have H1 : (if x7_1 ≥ 0 then (glob_match.l0 kj7 l0 a1 (wrap64 (x7_1 + 1)) (wrap64 (x8_1 + 1)) x7_1 (wrap64 (x8_1 + 1))) else (some false)) = some r := by rw [if_neg (show ¬ (false = true) by decide)] at H; exact H
                    clear H
                    have H := H1
                    clear H1
                    by_cases c16 : x7_1 ≥ 0
                    · rw [if_pos c16] at H
                      have c16b0 : decide (0 ≤ x7_1) = true := decide_eq_true c16
                      clear c16
                      have H' := Aside0.mk H
                      clear H
                      go_wp2
                      repeat (go_quiet (fail); try go_wp2)
                      go_roundg kj7
                      case measure => have := HK1.out; have := HJ3.out; have := HJ7.out; omega
                      case rel => exact ⟨(wrap64 (x7_1 + 1)), (wrap64 (x8_1 + 1)), (x7_1), (wrap64 (x8_1 + 1)), (by first | rfl | (simp; done) | (simp [*]; done) | exact gw_ne _ | exact gw_eq _), (by first | rfl | (simp; done) | (simp [*]; done) | exact gw_ne _ | exact gw_eq _), (by first | rfl | (simp; done) | (simp [*]; done) | exact gw_ne _ | exact gw_eq _), (by first | rfl | (simp; done) | (simp [*]; done) | exact gw_ne _ | exact gw_eq _), H', ⟨by have := HK1.out; have := HJ3.out; have := HJ7.out; omega⟩, ⟨by repeat (first | (with_reducible first | exact HB.out | apply below_alloc | apply pw_below_drewN | apply below_drew1) | exact HB.out)⟩⟩
                    · rw [if_neg c16] at H
                      have c16b0 : decide (0 ≤ x7_1) = false := decide_eq_false c16
                      clear c16
                      obtain rfl := Option.some.inj H
                      go_wp2
                      repeat (go_quiet (fail); try go_wp2)
                      go_ret
                      exact ⟨by first | rfl | (simp [errW_none, errW_some] <;> rfl) | (simp [*, errW_none, errW_some] <;> rfl), by repeat (first | (with_reducible first | exact HB.out | apply below_alloc | apply pw_below_drewN | apply below_drew1) | exact HB.out)⟩
      · rw [if_neg c3] at H
        have c3b0 : decide (x6_1 < (a1.size : Int)) = false := decide_eq_false c3
        clear c3
        by_cases c17 : 0 ≤ x5_1
        · rw [if_pos c17] at H
          have c17b0 := eq_true c17
          have c17b1 : decide (0 ≤ x5_1) = true := decide_eq_true c17
          clear c17
          by_cases c18 : x5_1 ≤ (l0.length : Int)
          · rw [if_pos c18] at H
            have c18b0 := eq_true c18
            have c18b1 : decide (x5_1 ≤ (l0.length : Int)) = true := decide_eq_true c18
            clear c18
            replace H := Option.bind_eq_some_iff.mp H
            obtain ⟨t121, A190, H⟩ := H
            replace H : (some (!t121)) = some r := H
            have A19 := Aside0.mk A190
            clear A190
            obtain rfl := Option.some.inj H
            obtain ⟨i020, hi020, _, hsz20, _⟩ := info_parts info9
            obtain ⟨A20, hcut20, hA20, hC20⟩ := print_drop_of (P := Tryd.prog) Value.string (⟨#[]⟩ : ByteArray) 32 9 .i64 Tryd.underlying32 hi020 hsz20 A0 c0 l0 x5_1 (of_decide_eq_true (by first | (with_reducible assumption) | assumption)) (of_decide_eq_true (by first | (with_reducible assumption) | assumption)) HC0.out
            have HR120 := Aside0.mk (Kd.C_of_reads (h1 := fun _ => rfl) (hA20 _ (Kd.reads_of_C HR0.out)))
            have HC120 := Aside0.mk hC20
            clear hA20 hC20 hi020 hsz20
            go_wp2_with (first | (go_at_call 22; (try rw [← List.length_drop]); (with_reducible refine (GStar.calls _ _ (l0.drop (x5_1 : Int).toNat) t121 _ ?side1 ?side2 A19.out).mono ?_); (case side1 => repeat (first | exact (Kd.C_below HR120.out HB.out) | (with_reducible refine Kd.C_alloc ?_ _) | (with_reducible refine Kd.C_drewN ?_ _) | (with_reducible refine Kd.C_drew ?_))); (case side2 => exact HC120.out); rintro e w21 ⟨rfl, hb⟩; have n0_ := Aside0.mk (below_step (by repeat (first | (with_reducible first | exact HB.out | apply below_alloc | apply pw_below_drewN | apply below_drew1) | exact HB.out)) hb); clear HB; have HB := n0_; clear n0_; (try clear hb); (try clear hb2); (try clear hk); (try clear hi)))
            repeat (go_quiet (first | (go_at_call 22; (try rw [← List.length_drop]); (with_reducible refine (GStar.calls _ _ (l0.drop (x5_1 : Int).toNat) t121 _ ?side1 ?side2 A19.out).mono ?_); (case side1 => repeat (first | exact (Kd.C_below HR120.out HB.out) | (with_reducible refine Kd.C_alloc ?_ _) | (with_reducible refine Kd.C_drewN ?_ _) | (with_reducible refine Kd.C_drew ?_))); (case side2 => exact HC120.out); rintro e w21 ⟨rfl, hb⟩; have n0_ := Aside0.mk (below_step (by repeat (first | (with_reducible first | exact HB.out | apply below_alloc | apply pw_below_drewN | apply below_drew1) | exact HB.out)) hb); clear HB; have HB := n0_; clear n0_; (try clear hb); (try clear hb2); (try clear hk); (try clear hi))); try go_wp2_with (first | (go_at_call 22; (try rw [← List.length_drop]); (with_reducible refine (GStar.calls _ _ (l0.drop (x5_1 : Int).toNat) t121 _ ?side1 ?side2 A19.out).mono ?_); (case side1 => repeat (first | exact (Kd.C_below HR120.out HB.out) | (with_reducible refine Kd.C_alloc ?_ _) | (with_reducible refine Kd.C_drewN ?_ _) | (with_reducible refine Kd.C_drew ?_))); (case side2 => exact HC120.out); rintro e w21 ⟨rfl, hb⟩; have n0_ := Aside0.mk (below_step (by repeat (first | (with_reducible first | exact HB.out | apply below_alloc | apply pw_below_drewN | apply below_drew1) | exact HB.out)) hb); clear HB; have HB := n0_; clear n0_; (try clear hb); (try clear hb2); (try clear hk); (try clear hi))))
            go_ret
            exact ⟨by first | rfl | (simp [errW_none, errW_some] <;> rfl) | (simp [*, errW_none, errW_some] <;> rfl), by repeat (first | (with_reducible first | exact HB.out | apply below_alloc | apply pw_below_drewN | apply below_drew1) | exact HB.out)⟩
          · rw [if_neg c18] at H
            exact absurd H (by simp)
        · rw [if_neg c17] at H
          exact absurd H (by simp)

/-! ### glob_Match: function 10 -/
def glob_Match.f (k : Nat) (a0 : ByteArray) (a1 : ByteArray) : Option (Bool) := (glob_parts.f k a0).bind fun bt125 => (if bt125.2 = true then ((glob_match.f k bt125.1 a1).bind fun t129 => (some t129)) else (some false))
theorem glob_Match.mono : ∀ a0 a1 k, LeO (glob_Match.f k a0 a1) (glob_Match.f (k + 1) a0 a1) := by
  intro a0 a1 k
  unfold glob_Match.f
  repeat' first
      | (with_reducible exact glob_match.mono _ _ _)
      | (with_reducible exact glob_parts.mono _ _)
      | (with_reducible exact LeO.refl _)
      | (with_reducible exact LeO.none _)
      | (with_reducible refine LeO.ite ?_ ?_)
      | (with_reducible refine LeO.bind ?_ (fun _ => ?_))
      | exact glob_match.mono _ _ _
      | exact glob_parts.mono _ _
      | exact LeO.none _
      | refine LeO.ite ?_ ?_
      | refine LeO.bind ?_ (fun _ => ?_)
set_option maxHeartbeats 8000000 in
set_option maxRecDepth 100000 in
theorem glob_Match.calls (k : Nat) (a0 : ByteArray) (a1 : ByteArray) (r : Bool) (w : World) (h : glob_Match.f k a0 a1 = some r) :
    Calls Tryd.prog 10 #[.string a0, .string a1] w fun e w' => e = .returned (.bool r) ∧ Below w.heap.size w w' := by
  have HB := Aside0.mk (Below.refl w.heap.size w)
  have H : ((glob_parts.f k a0).bind fun bt125 => (if bt125.2 = true then ((glob_match.f k bt125.1 a1).bind fun t129 => (some t129)) else (some false))) = some r := h
  clear h
  replace H := Option.bind_eq_some_iff.mp H
  obtain ⟨⟨t125, t126⟩, A30, H⟩ := H
  replace H : (if t126 = true then ((glob_match.f k t125 a1).bind fun t129 => (some t129)) else (some false)) = some r := H
  have A3 := Aside0.mk A30
  clear A30
  by_cases c4 : t126 = true
  · subst c4
    have H1 : ((glob_match.f k t125 a1).bind fun t129 => (some t129)) = some r := by rw [if_pos rfl] at H; exact H
    clear H
    have H := H1
    clear H1
    replace H := Option.bind_eq_some_iff.mp H
    obtain ⟨t129, A50, H⟩ := H
    replace H : (some t129) = some r := H
    have A5 := Aside0.mk A50
    clear A50
    obtain rfl := Option.some.inj H
    go_enter Tryd.func10, Tryd.ntmps10
    go_wp2_with (first | ((with_reducible refine gate_callee (f := 15) rfl ?_); refine goesL_ (some 9) rfl rfl Tryd.func15 (by kernel_rfl) rfl #[.string a0] rfl (by (try simp only [List.map_toArray, List.map_cons, List.map_nil]); first | done | rfl | (simp only [List.length_drop, List.length_take]; rfl)) ?_; (with_reducible refine (glob_parts.calls k a0 t125 true _ A3.out).mono ?_); rintro e w6 ⟨v127, rfl, ho0, hb⟩; refine ⟨_, rfl, ?_⟩; have n0_ := Aside0.mk (Kd.R_lower ho0 (below_size (by repeat (first | (with_reducible first | exact HB.out | apply below_alloc | apply pw_below_drewN | apply below_drew1) | exact HB.out)))); have n1_ := Aside0.mk (below_step (by repeat (first | (with_reducible first | exact HB.out | apply below_alloc | apply pw_below_drewN | apply below_drew1) | exact HB.out)) hb); clear HB; have HO128 := n0_; have HB := n1_; clear n0_ n1_; (try clear hb); (try clear hb2); (try clear hk); (try clear hi); (try clear ho0); obtain ⟨Ao7, co7, eo7⟩ := Kd.R_slice HO128.out; subst eo7) | (go_at_call 16; (with_reducible refine (glob_match.calls k _ _ t125 a1 t129 _ ?side1 ?side2 A5.out).mono ?_); (case side1 => repeat (first | exact (Kd.R_reads' HO128.out).2.2 | (with_reducible refine Kd.C_alloc ?_ _) | (with_reducible refine Kd.C_drewN ?_ _) | (with_reducible refine Kd.C_drew ?_))); (case side2 => exact (Kd.R_reads' HO128.out).2.1); rintro e w8 ⟨rfl, hb⟩; have n0_ := Aside0.mk (Kd.R_below (by (with_reducible repeat (first | apply Kd.R_alloc | apply Kd.R_drewN | apply Kd.R_drew)); exact HO128.out) hb); have n1_ := Aside0.mk (below_step (by repeat (first | (with_reducible first | exact HB.out | apply below_alloc | apply pw_below_drewN | apply below_drew1) | exact HB.out)) hb); clear HO128; clear HB; have HO128 := n0_; have HB := n1_; clear n0_ n1_; (try clear hb); (try clear hb2); (try clear hk); (try clear hi)))
    go_ret
    exact ⟨by first | rfl | (simp [errW_none, errW_some] <;> rfl) | (simp [*, errW_none, errW_some] <;> rfl), by repeat (first | (with_reducible first | exact HB.out | apply below_alloc | apply pw_below_drewN | apply below_drew1) | exact HB.out)⟩
  · replace c4 := Bool.eq_false_iff.mpr c4
    subst c4
    have H1 : (some false) = some r := by rw [if_neg (show ¬ (false = true) by decide)] at H; exact H
    clear H
    have H := H1
    clear H1
    obtain rfl := Option.some.inj H
    go_enter Tryd.func10, Tryd.ntmps10
    go_wp2_with (first | ((with_reducible refine gate_callee (f := 15) rfl ?_); refine goesL_ (some 9) rfl rfl Tryd.func15 (by kernel_rfl) rfl #[.string a0] rfl (by (try simp only [List.map_toArray, List.map_cons, List.map_nil]); first | done | rfl | (simp only [List.length_drop, List.length_take]; rfl)) ?_; (with_reducible refine (glob_parts.calls k a0 t125 false _ A3.out).mono ?_); rintro e w9 ⟨v127, rfl, ho0, hb⟩; refine ⟨_, rfl, ?_⟩; have n0_ := Aside0.mk (Kd.R_lower ho0 (below_size (by repeat (first | (with_reducible first | exact HB.out | apply below_alloc | apply pw_below_drewN | apply below_drew1) | exact HB.out)))); have n1_ := Aside0.mk (below_step (by repeat (first | (with_reducible first | exact HB.out | apply below_alloc | apply pw_below_drewN | apply below_drew1) | exact HB.out)) hb); clear HB; have HO128 := n0_; have HB := n1_; clear n0_ n1_; (try clear hb); (try clear hb2); (try clear hk); (try clear hi); (try clear ho0)))
    go_ret
    exact ⟨by first | rfl | (simp [errW_none, errW_some] <;> rfl) | (simp [*, errW_none, errW_some] <;> rfl), by repeat (first | (with_reducible first | exact HB.out | apply below_alloc | apply pw_below_drewN | apply below_drew1) | exact HB.out)⟩

/-! ### strings_genSplit: function 32 -/
def strings_genSplit.f (a0 : ByteArray) (a1 : ByteArray) (a2 : Int) (a3 : Int) : Option (List ByteArray) := if a1.data.toList = [47] then (if a2 = 0 then (if a3 = -1 then (if a0.size < 4294967281 then (some (Lib.splitB ⟨#[47]⟩ 0 (Lib.countB a0 ⟨#[47]⟩) a0)) else (none)) else (none)) else (none)) else (none)
theorem strings_genSplit.calls (a0 : ByteArray) (a1 : ByteArray) (a2 : Int) (a3 : Int) (r : List ByteArray) (w : World) (h : strings_genSplit.f a0 a1 a2 a3 = some r) :
    Calls Tryd.prog 32 #[.string a0, .string a1, .int .i64 a2, .int .i64 a3] w fun e w' => ∃ v0_ : Value, e = .returned (v0_) ∧ Kd.R Kd.string 9 w' w.heap.size (fun _ => True) v0_ r ∧ Below w.heap.size w w' := by
  unfold strings_genSplit.f at h
  split at h
  · rename_i h1
    split at h
    · rename_i h2
      split at h
      · rename_i h3
        split at h
        · rename_i h4
          obtain rfl := Option.some.inj h
          subst h2 h3
          obtain rfl : a1 = ⟨#[47]⟩ := by
            cases a1 with | mk d => cases d with | mk l => simp at h1; subst h1; rfl
          have hle := Lib.countB_le ⟨#[47]⟩ (by decide) a0.size a0 (Nat.le_refl _)
          have hlen := Lib.splitB_all ⟨#[47]⟩ (by decide) 0 _ a0 rfl
          have c := Any.strings_genSplit_core Go.Proofs.Tryd.lays221 (by kernel_rfl) a0 ⟨#[47]⟩ 0 (-1) (Lib.countB a0 ⟨#[47]⟩ + 1) w h4 (by decide) (by decide)
            (fun x c _ => (Go.Proofs.Tryd.strings_Index_one x 47 _).mono fun e w' ⟨he, hw⟩ => ⟨by rw [he]; exact congrArg (fun z => Ending.returned (.int .i64 z)) (Lib.index_one _ _).symm, hw⟩)
            ((Go.Proofs.Tryd.strings_Count_one a0 47 w).mono fun e w' ⟨he, hw⟩ => ⟨by rw [he]; exact congrArg (fun z : Nat => Ending.returned (.int .i64 z)) (Lib.count_one _ _).symm, hw⟩)
            (by decide) (by decide) (by rw [if_pos (by decide)]; omega)
          rw [Nat.add_sub_cancel, hlen] at c
          have e2 : Lib.cellsOf (Lib.splitB ⟨#[47]⟩ 0 (Lib.countB a0 ⟨#[47]⟩) a0) (Lib.countB a0 ⟨#[47]⟩ + 1) = ((Lib.splitB ⟨#[47]⟩ 0 (Lib.countB a0 ⟨#[47]⟩) a0).map Value.string).toArray := by rw [← hlen]; exact Lib.cellsOf_full _
          rw [e2] at c
          refine c.mono fun e w' ⟨he, hw⟩ => ⟨_, he, ⟨fun _ _ => trivial, ?_⟩, ?_⟩
          · rw [hw, ← hlen]
            refine OwnRow.lit w w.heap.size ?_ (Nat.le_refl _) (by omega)
            refine ⟨by simp [Kd.string, Kd.scalar], ?_⟩
            intro j p hj
            show _ = [Value.string p]
            obtain ⟨hjl, rfl⟩ := List.getElem?_eq_some_iff.1 hj
            show ((List.map Value.string _).drop (j * 1)).take 1 = _
            rw [Nat.mul_one, List.drop_eq_getElem_cons (by simpa using hjl)]
            simp
          · rw [hw]; exact (Below.refl _ w).alloc (Nat.le_refl _) _
        · cases h
      · cases h
    · cases h
  · cases h
/-! ### strings_Split: function 21 -/
def strings_Split.f (a0 : ByteArray) (a1 : ByteArray) : Option (List ByteArray) := (strings_genSplit.f a0 a1 0 (-1)).bind fun t130 => (some t130)
set_option maxHeartbeats 8000000 in
set_option maxRecDepth 100000 in
theorem strings_Split.calls (a0 : ByteArray) (a1 : ByteArray) (r : List ByteArray) (w : World) (h : strings_Split.f a0 a1 = some r) :
    Calls Tryd.prog 21 #[.string a0, .string a1] w fun e w' => ∃ v0_ : Value, e = .returned (v0_) ∧ Kd.R Kd.string 9 w' w.heap.size (fun _ => True) v0_ r ∧ Below w.heap.size w w' := by
  have HB := Aside0.mk (Below.refl w.heap.size w)
  have H : ((strings_genSplit.f a0 a1 0 (-1)).bind fun t130 => (some t130)) = some r := h
  clear h
  replace H := Option.bind_eq_some_iff.mp H
  obtain ⟨t130, A30, H⟩ := H
  replace H : (some t130) = some r := H
  have A3 := Aside0.mk A30
  clear A30
  obtain rfl := Option.some.inj H
  go_enter Tryd.func21, Tryd.ntmps21
  go_wp2_with (first | ((with_reducible refine gate_callee (f := 32) rfl ?_); refine goesL_ (some 7) rfl rfl Tryd.func32 (by kernel_rfl) rfl #[.string a0, .string a1, .int .i64 0, .int .i64 (-1)] rfl (by (try simp only [List.map_toArray, List.map_cons, List.map_nil]); first | done | rfl | (simp only [List.length_drop, List.length_take]; rfl)) ?_; (with_reducible refine (strings_genSplit.calls a0 a1 0 (-1) t130 _ A3.out).mono ?_); rintro e w4 ⟨v131, rfl, ho0, hb⟩; refine ⟨_, rfl, ?_⟩; have n0_ := Aside0.mk (Kd.R_lower ho0 (below_size (by repeat (first | (with_reducible first | exact HB.out | apply below_alloc | apply pw_below_drewN | apply below_drew1) | exact HB.out)))); have n1_ := Aside0.mk (below_step (by repeat (first | (with_reducible first | exact HB.out | apply below_alloc | apply pw_below_drewN | apply below_drew1) | exact HB.out)) hb); clear HB; have HO132 := n0_; have HB := n1_; clear n0_ n1_; (try clear hb); (try clear hb2); (try clear hk); (try clear hi); (try clear ho0)))
  go_ret
  exact ⟨_, by first | rfl | (simp [errW_none, errW_some] <;> rfl) | (simp [*, errW_none, errW_some] <;> rfl), by (with_reducible repeat (first | apply Kd.R_alloc | apply Kd.R_drewN | apply Kd.R_drew)); exact HO132.out, by repeat (first | (with_reducible first | exact HB.out | apply below_alloc | apply pw_below_drewN | apply below_drew1) | exact HB.out)⟩

/-! ### paths_Right: function 43 -/
def GBad.signs : List UInt8 := [97, 98, 99, 100, 101, 102, 103, 104, 105, 106, 107, 108, 109, 110, 111, 112, 113, 114, 115, 116, 117, 118, 119, 120, 121, 122, 48, 49, 50, 51, 52, 53, 54, 55, 56, 57, 46, 45, 95]
def GBad.f (a0 : ByteArray) : Option (Bool) := if a0.data.toList.all (fun b => GBad.signs.contains b) = true then (some false) else (none)
theorem GBad.sign_lt : ∀ b ∈ GBad.signs, b.toNat < 128 := fun b hb => of_decide_eq_true (List.all_eq_true.1 (show GBad.signs.all (fun b => decide (b.toNat < 128)) = true by kernel_rfl) b hb)
theorem GBad.one (x : UInt8) (hx : GBad.signs.contains x = true) (w : World) : Calls Tryd.prog 50 #[.int .i32 (x.toNat : Int)] w fun e w' => e = .returned (.bool false) ∧ w = w' := by
  have hm : x ∈ GBad.signs := by simpa using hx
  have hlt := GBad.sign_lt x hm
  have c := Go.Proofs.Tryd.strings_ContainsRune_ascii (⟨#[97, 98, 99, 100, 101, 102, 103, 104, 105, 106, 107, 108, 109, 110, 111, 112, 113, 114, 115, 116, 117, 118, 119, 120, 121, 122, 48, 49, 50, 51, 52, 53, 54, 55, 56, 57, 46, 45, 95]⟩ : ByteArray) (x.toNat : Int) w (by omega) (by omega)
  have hi : decide (0 ≤ Lib.indexByte GBad.signs (x.toNat : Int).toNat.toUInt8) = true := by
    rw [show (x.toNat : Int).toNat.toUInt8 = x by simp]
    exact List.all_eq_true.1 (show GBad.signs.all (fun b => decide (0 ≤ Lib.indexByte GBad.signs b)) = true by kernel_rfl) x hm
  have hd : (⟨#[97, 98, 99, 100, 101, 102, 103, 104, 105, 106, 107, 108, 109, 110, 111, 112, 113, 114, 115, 116, 117, 118, 119, 120, 121, 122, 48, 49, 50, 51, 52, 53, 54, 55, 56, 57, 46, 45, 95]⟩ : ByteArray).data.toList = GBad.signs := rfl
  rw [hd, hi] at c
  have C := Aside0.mk c
  clear c hi hd
  generalize (x.toNat : Int) = r at *
  go_enter Tryd.func50, Tryd.ntmps50
  go_wp2_with (go_at_call 51; (with_reducible refine C.out.mono ?_); rintro e w' ⟨rfl, rfl⟩)
  go_ret
  exact ⟨rfl, rfl⟩
theorem GBad.decode (s : ByteArray) (hs : s.data.toList.all (fun b => GBad.signs.contains b) = true) (pos : Nat) (hp : pos < s.size) : ∃ x : UInt8, GBad.signs.contains x = true ∧ Utf8.decode s pos = (x.toNat, 1) := by
  have hl : pos < s.data.toList.length := by rw [Array.length_toList]; exact hp
  have hx := List.all_eq_true.1 hs _ (List.getElem_mem hl)
  refine ⟨s.data.toList[pos], hx, ?_⟩
  have hlt : (s.data.toList[pos]).toNat < 128 := GBad.sign_lt _ (by simpa using hx)
  have hg : s.get! pos = s.data.toList[pos] := by
    show s.data.get!Internal pos = _
    rw [Array.getElem_toList]
    exact getElem!_pos s.data pos hp
  rw [Lib.decode_at, hg]
  exact Lib.decodeN_ascii _ _ _ _ _ hlt
set_option maxHeartbeats 2000000 in
set_option maxRecDepth 100000 in
theorem GBad.inner (s : ByteArray) (hs : s.data.toList.all (fun b => GBad.signs.contains b) = true) (w : World) :
    Calls Tryd.prog 68 #[.string s, .func (.func 50) #[] #[], .bool true] w fun e w' => e = .returned (.int .i64 (-1)) ∧ Below w.heap.size w w' := by
  have HS := Aside0.mk (GBad.decode s hs)
  clear hs
  go_enter Tryd.func68, Tryd.ntmps68
  go_wp2
  go_loopg [] s.size (fun gf wx => ∃ pos : Nat, wx.heap[w.heap.size]? = some (.stringIter s pos) ∧ Below w.heap.size w wx ∧ s.size ≤ pos + gf)
  case atStart => exact ⟨0, World.iter_heap w s 0, (Below.refl _ w).alloc (Nat.le_refl _) _, by omega⟩
  case round =>
    obtain ⟨pos, hit, hbw, hfu⟩ := hrel
    by_cases hps : pos < s.size
    · obtain ⟨g', rfl⟩ : ∃ g', gk = g' + 1 := ⟨gk - 1, by omega⟩
      obtain ⟨x, hx, hd⟩ := HS.out pos hps
      have hnx : ∀ ty, (Instr.next (.pointer (some ⟨w.heap.size, 0, none⟩)) true ty).run Tryd.prog wr = _ := fun ty => Lib.run_next_any_at wr w.heap.size s pos ty hit hps
      rw [hd] at hnx
      have hit2 := Lib.iterAt_heap wr w.heap.size s pos (pos + 1) hit
      have hbw2 := Lib.below_iterAt hbw (k := w.heap.size) (Nat.le_refl _) s (pos + 1)
      obtain ⟨W, hWd⟩ : ∃ W, wr.iterAt w.heap.size s (pos + 1) = W := ⟨_, rfl⟩
      simp only at hnx
      rw [hWd] at hnx hit2 hbw2
      have cS := Aside0.mk (GBad.one x hx W)
      clear hd hx
      generalize x.toNat = R at *
      go_wp2_with (go_at_call 50; (with_reducible refine cS.out.mono ?_); rintro e W' ⟨rfl, rfl⟩)
      go_roundg g'
      case measure => omega
      case rel => exact ⟨pos + 1, hit2, hbw2, by omega⟩
    · have hnx : ∀ ty, (Instr.next (.pointer (some ⟨w.heap.size, 0, none⟩)) true ty).run Tryd.prog wr = _ := fun ty => Lib.run_next_end_at wr w.heap.size s pos ty hit hps
      go_wp2
      go_ret
      exact ⟨rfl, hbw⟩
theorem GBad.calls (a0 : ByteArray) (r : Bool) (w : World) (h : GBad.f a0 = some r) :
    Calls Tryd.prog 49 #[.string a0, .func (.func 50) #[] #[]] w fun e w' => e = .returned (.bool r) ∧ Below w.heap.size w w' := by
  unfold GBad.f at h
  split at h
  · rename_i hs
    obtain rfl := Option.some.inj h
    have cI := fun W : World => GBad.inner a0 hs W
    have cF : ∀ W : World, Calls Tryd.prog 63 #[.string a0, .func (.func 50) #[] #[]] W fun e w' => e = .returned (.int .i64 (-1)) ∧ Below W.heap.size W w' := by
      intro W
      have C := Aside0.mk (cI W)
      clear cI hs
      go_enter Tryd.func63, Tryd.ntmps63
      go_wp2_with (go_at_call 68; (with_reducible refine C.out.mono ?_); rintro e w' ⟨rfl, hb⟩)
      go_ret
      exact ⟨rfl, hb⟩
    have C := Aside0.mk (cF w)
    clear cI cF hs
    go_enter Tryd.func49, Tryd.ntmps49
    go_wp2_with (go_at_call 63; (with_reducible refine C.out.mono ?_); rintro e w' ⟨rfl, hb⟩)
    go_ret
    exact ⟨rfl, hb⟩
  · cases h
def RTrim.signs : List UInt8 := [97, 98, 99, 100, 101, 102, 103, 104, 105, 106, 107, 108, 109, 110, 111, 112, 113, 114, 115, 116, 117, 118, 119, 120, 121, 122, 48, 49, 50, 51, 52, 53, 54, 55, 56, 57, 46, 45, 95]
def RTrim.f (a0 : ByteArray) (a1 : ByteArray) : Option (ByteArray) := if a1.data.toList = RTrim.signs then (if a0.size ≤ 9223372036854775807 then (some (⟨(Lib.trimS a0.data.toList RTrim.signs).toArray⟩ : ByteArray)) else (none)) else (none)
theorem RTrim.calls (a0 : ByteArray) (a1 : ByteArray) (r : ByteArray) (w : World) (h : RTrim.f a0 a1 = some r) :
    Calls Tryd.prog 48 #[.string a0, .string a1] w fun e w' => e = .returned (.string r) ∧ Below w.heap.size w w' := by
  unfold RTrim.f at h
  split at h
  · rename_i h1
    split at h
    · rename_i h2
      obtain rfl := Option.some.inj h
      have h3 := Any.strings_Trim_laid Go.Proofs.Tryd.lays160 (by kernel_rfl) a0 a1 w h2 (by
        have : a1.data.toList.length = 39 := by rw [h1]; rfl
        have h4 : a1.size = a1.data.toList.length := by rw [Array.length_toList]; rfl
        omega) (by rw [h1]; exact ascii_of_all (by decide))
      rw [h1] at h3
      exact h3
    · cases h
  · cases h
def okn (l : List UInt8) : Bool := !(l == []) && !(l == [46]) && !(l == [46, 46]) && decide (l.length ≤ 11) && l.all (fun b => GBad.signs.contains b)
def paths_Right.f (a0 : ByteArray) : Option (Bool) := if a0.size ≤ 9223372036854775807 then (some (okn a0.data.toList)) else (none)
theorem RTrim.dw (p : UInt8 → Bool) : ∀ l : List UInt8, l.dropWhile p = [] ↔ ∀ x ∈ l, p x = true
  | [] => by simp
  | a :: l => by
    cases h : p a with
    | true => simp [List.dropWhile, h, RTrim.dw p l]
    | false => simp [List.dropWhile, h]
theorem RTrim.empty (l : List UInt8) : (Lib.trimS l RTrim.signs == []) = l.all (fun b => GBad.signs.contains b) := by
  have key : Lib.trimS l RTrim.signs = [] ↔ l.all (fun b => GBad.signs.contains b) = true := by
    show Lib.trimS l GBad.signs = [] ↔ _
    unfold Lib.trimS Lib.trimLeftS Lib.trimRightS
    simp only [RTrim.dw, List.mem_reverse, List.all_eq_true]
    constructor
    · intro h x hx
      by_cases hc : GBad.signs.contains x = true
      · exact hc
      · have hx' : x ∈ l.reverse.dropWhile (GBad.signs.contains ·) := by
          have hs : x ∈ l.reverse.takeWhile (GBad.signs.contains ·) ++ l.reverse.dropWhile (GBad.signs.contains ·) := by
            rw [List.takeWhile_append_dropWhile]; exact List.mem_reverse.2 hx
          rcases List.mem_append.1 hs with h1 | h1
          · exact absurd (List.all_takeWhile (l := l.reverse) (p := (GBad.signs.contains ·)) |> List.all_eq_true.1 |> (· x h1)) hc
          · exact h1
        exact h x hx'
    · intro h x hx
      exact h x (List.mem_reverse.1 ((List.dropWhile_sublist _).subset hx))
  cases h : l.all (fun b => GBad.signs.contains b) with
  | true => rw [key.2 h]; rfl
  | false => exact beq_eq_false_iff_ne.2 (fun e => by rw [key.1 e] at h; cases h)
set_option maxHeartbeats 8000000 in
set_option maxRecDepth 100000 in
theorem paths_Right.calls (a0 : ByteArray) (r : Bool) (w : World) (h : paths_Right.f a0 = some r) :
    Calls Tryd.prog 43 #[.string a0] w fun e w' => e = .returned (.bool r) ∧ Below w.heap.size w w' := by
  unfold paths_Right.f at h
  split at h
  · rename_i hs
    obtain rfl := Option.some.inj h
    clear h
    have hB := Below.refl w.heap.size w
    have hl : a0.toList = a0.data.toList := Lib.toList_data a0
    have hsz : a0.size = a0.data.toList.length := Lib.size_eq a0
    by_cases h1 : a0.toList = []
    · have b1 : (a0.toList == ([] : List UInt8)) = true := beq_iff_eq.2 h1
      have hok : okn a0.data.toList = false := by rw [← hl, h1]; rfl
      rw [hok]
      clear hl hsz h1 hok
      go_enter Tryd.func43, Tryd.ntmps43
      go_wp2
      go_ret
      exact ⟨rfl, hB⟩
    · have b1 : (a0.toList == ([] : List UInt8)) = false := beq_eq_false_iff_ne.2 h1
      by_cases h2 : a0.toList = [46]
      · have b2 : (a0.toList == ([46] : List UInt8)) = true := beq_iff_eq.2 h2
        have hok : okn a0.data.toList = false := by rw [← hl, h2]; rfl
        rw [hok]
        clear hl hsz h1 h2 hok
        go_enter Tryd.func43, Tryd.ntmps43
        go_wp2
        go_ret
        exact ⟨rfl, hB⟩
      · have b2 : (a0.toList == ([46] : List UInt8)) = false := beq_eq_false_iff_ne.2 h2
        by_cases h3 : a0.toList = [46, 46]
        · have b3 : (a0.toList == ([46, 46] : List UInt8)) = true := beq_iff_eq.2 h3
          have hok : okn a0.data.toList = false := by rw [← hl, h3]; rfl
          rw [hok]
          clear hl hsz h1 h2 h3 hok
          go_enter Tryd.func43, Tryd.ntmps43
          go_wp2
          go_ret
          exact ⟨rfl, hB⟩
        · have b3 : (a0.toList == ([46, 46] : List UInt8)) = false := beq_eq_false_iff_ne.2 h3
          by_cases h4 : a0.size ≤ 11
          · have b4 : decide ((a0.size : Int) ≤ 11) = true := decide_eq_true (by omega)
            have hok : okn a0.data.toList = a0.data.toList.all (fun b => GBad.signs.contains b) := by
              unfold okn
              rw [← hl, b1, b2, b3, hl, ← hsz, decide_eq_true h4]
              rfl
            rw [hok]
            have ct := fun W : World => RTrim.calls a0 (⟨#[97, 98, 99, 100, 101, 102, 103, 104, 105, 106, 107, 108, 109, 110, 111, 112, 113, 114, 115, 116, 117, 118, 119, 120, 121, 122, 48, 49, 50, 51, 52, 53, 54, 55, 56, 57, 46, 45, 95]⟩ : ByteArray) (⟨(Lib.trimS a0.data.toList RTrim.signs).toArray⟩ : ByteArray) W (by
              unfold RTrim.f
              exact (if_pos (by rfl)).trans (if_pos hs))
            have he : ((⟨(Lib.trimS a0.data.toList RTrim.signs).toArray⟩ : ByteArray).toList == ([] : List UInt8)) = a0.data.toList.all (fun b => GBad.signs.contains b) := by
              rw [Lib.toList_data]
              exact RTrim.empty _
            generalize (⟨(Lib.trimS a0.data.toList RTrim.signs).toArray⟩ : ByteArray) = T at *
            have CT := Aside0.mk ct
            have HB := Aside0.mk hB
            clear ct hB hok hl hsz h1 h2 h3 h4 hs
            cases hall : a0.data.toList.all (fun b => GBad.signs.contains b) with
            | true =>
              rw [hall] at he
              have cg := fun W : World => GBad.calls a0 false W (by unfold GBad.f; rw [if_pos hall])
              have CG := Aside0.mk cg
              clear cg hall
              go_enter Tryd.func43, Tryd.ntmps43
              go_wp2_with (first | (go_at_call 48; (with_reducible refine (CT.out _).mono ?_); rintro e w' ⟨rfl, hb⟩; replace HB := Aside0.mk (HB.out.trans (hb.mono HB.out.size)); clear hb) | (go_at_call 49; (with_reducible refine (CG.out _).mono ?_); rintro e w' ⟨rfl, hb⟩; replace HB := Aside0.mk (HB.out.trans (hb.mono HB.out.size)); clear hb))
              go_ret
              exact ⟨rfl, HB.out⟩
            | false =>
              rw [hall] at he
              clear hall
              go_enter Tryd.func43, Tryd.ntmps43
              go_wp2_with (first | (go_at_call 48; (with_reducible refine (CT.out _).mono ?_); rintro e w' ⟨rfl, hb⟩; replace HB := Aside0.mk (HB.out.trans (hb.mono HB.out.size)); clear hb))
              go_ret
              exact ⟨rfl, HB.out⟩
          · have b4 : decide ((a0.size : Int) ≤ 11) = false := decide_eq_false (by omega)
            have hok : okn a0.data.toList = false := by
              unfold okn
              rw [← hsz, decide_eq_false h4]
              simp
            rw [hok]
            clear hl hsz h1 h2 h3 h4 hok hs
            go_enter Tryd.func43, Tryd.ntmps43
            go_wp2
            go_ret
            exact ⟨rfl, hB⟩
  · cases h
/-! ### paths_odd: function 34 -/
def paths_odd.f (a0 : ByteArray) : Option (Bool) := (paths_Right.f a0).bind fun t133 => (some (!t133))
set_option maxHeartbeats 8000000 in
set_option maxRecDepth 100000 in
theorem paths_odd.calls (a0 : ByteArray) (r : Bool) (w : World) (h : paths_odd.f a0 = some r) :
    Calls Tryd.prog 34 #[.string a0] w fun e w' => e = .returned (.bool r) ∧ Below w.heap.size w w' := by
  have HB := Aside0.mk (Below.refl w.heap.size w)
  have H : ((paths_Right.f a0).bind fun t133 => (some (!t133))) = some r := h
  clear h
  replace H := Option.bind_eq_some_iff.mp H
  obtain ⟨t133, A20, H⟩ := H
  replace H : (some (!t133)) = some r := H
  have A2 := Aside0.mk A20
  clear A20
  obtain rfl := Option.some.inj H
  go_enter Tryd.func34, Tryd.ntmps34
  go_wp2_with (first | ((with_reducible refine gate_callee (f := 43) rfl ?_); refine goesL_ (some 4) rfl rfl Tryd.func43 (by kernel_rfl) rfl #[.string a0] rfl (by (try simp only [List.map_toArray, List.map_cons, List.map_nil]); first | done | rfl | (simp only [List.length_drop, List.length_take]; rfl)) ?_; (with_reducible refine (paths_Right.calls a0 t133 _ A2.out).mono ?_); rintro e w3 ⟨rfl, hb⟩; refine ⟨_, rfl, ?_⟩; have n0_ := Aside0.mk (below_step (by repeat (first | (with_reducible first | exact HB.out | apply below_alloc | apply pw_below_drewN | apply below_drew1) | exact HB.out)) hb); clear HB; have HB := n0_; clear n0_; (try clear hb); (try clear hb2); (try clear hk); (try clear hi)))
  go_ret
  exact ⟨by first | rfl | (simp [errW_none, errW_some] <;> rfl) | (simp [*, errW_none, errW_some] <;> rfl), by repeat (first | (with_reducible first | exact HB.out | apply below_alloc | apply pw_below_drewN | apply below_drew1) | exact HB.out)⟩

/-! ### GOdd: a call with a constant function -/
def GOdd.l0 : List ByteArray → Option (Bool)
  | [] => some false
  | x :: r => (paths_odd.f x).bind fun t => if t = true then some true else GOdd.l0 r
def GOdd.f (l0 : List ByteArray) : Option (Bool) := GOdd.l0 l0
set_option maxHeartbeats 2000000 in
set_option maxRecDepth 100000 in
theorem GOdd.index (A0 : Option Addr) (c0 : Nat) (l0 : List ByteArray) (r : Bool) (w : World) (hr0 : Kd.C Kd.string w A0 l0.length l0) (h : GOdd.f l0 = some r) :
    Calls Tryd.prog 33 #[.slice A0 l0.length c0, .func (.func 34) #[] #[]] w fun e w' => (∃ i : Int, e = .returned (.int .i64 i) ∧ (i = -1 ∨ 0 ≤ i) ∧ r = decide (0 ≤ i)) ∧ Below w.heap.size w w' := by
  have HR := Aside0.mk hr0
  have hmax := hr0.2.1
  clear hr0
  have H := Aside0.mk h
  clear h
  go_enter Tryd.func33, Tryd.ntmps33
  go_wp2
  go_loopg [8] l0.length (fun kq v8 wx => ∃ i : Nat, v8 = .int .i64 (i : Int) ∧ i ≤ l0.length ∧ l0.length ≤ i + kq ∧ Aside0 (GOdd.l0 (l0.drop i) = some r) ∧ Aside0 (Below w.heap.size w wx))
  case atStart => exact ⟨0, rfl, Nat.zero_le _, by omega, H, ⟨Below.refl _ w⟩⟩
  case round =>
    obtain ⟨i, rfl, hi, hfu, HA, HB⟩ := hrel
    by_cases hlt : i < l0.length
    · obtain ⟨k1, rfl⟩ : ∃ k1, gk = k1 + 1 := ⟨gk - 1, by omega⟩
      have hd : l0.drop i = l0[i] :: l0.drop (i + 1) := List.drop_eq_getElem_cons hlt
      have hh := HA.out
      rw [hd] at hh
      simp only [GOdd.l0] at hh
      obtain ⟨t, ht, hh2⟩ := Option.bind_eq_some_iff.1 hh
      clear hh
      clear HA hd
      have hltI : decide ((i : Int) < (l0.length : Int)) = true := decide_eq_true (by omega)
      have p1 : 0 ≤ (i : Int) := by omega
      have q1 : (i : Int) < (l0.length : Int) := by omega
      obtain ⟨ad, e1, hx⟩ := Kd.at_string (Kd.C_below HR.out HB.out) (i : Int) p1 q1
      cases e1
      have hv : rdOf ByteArray.empty l0 (i : Int) = l0[i] := by
        simp [rdOf, hlt]
      rw [hv, Int.toNat_natCast] at hx
      generalize l0[i] = X at *
      have hwr : wrap64 ((i : Int) + 1) = ((i + 1 : Nat) : Int) := by
        simp only [wrap64, IntKind.wrap]
        omega
      have c : Calls Tryd.prog 34 #[.string X] wr fun e w' => e = .returned (.bool t) ∧ Below wr.heap.size wr w' := paths_odd.calls X t wr ht
      have C := Aside0.mk c
      have HH := Aside0.mk hh2
      clear c ht hh2
      replace p1 := eq_true p1
      replace q1 := eq_true q1
      cases t with
      | true =>
        go_wp2_with (go_at_call 34; (with_reducible refine C.out.mono ?_); rintro e w' ⟨rfl, hb⟩)
        go_ret
        have hr := HH.out
        have : r = true := by simpa using hr.symm
        subst this
        exact ⟨⟨(i : Int), rfl, Or.inr (by omega), by simp⟩, HB.out.trans (hb.mono HB.out.size)⟩
      | false =>
        go_wp2_with (go_at_call 34; (with_reducible refine C.out.mono ?_); rintro e w' ⟨rfl, hb⟩)
        go_roundg k1
        case measure => omega
        case rel => exact ⟨i + 1, by first | rfl | (rw [hwr]; done), by omega, by omega, ⟨by simpa using HH.out⟩, ⟨HB.out.trans (hb.mono HB.out.size)⟩⟩
    · have hltI : decide ((i : Int) < (l0.length : Int)) = false := decide_eq_false (by omega)
      have hh := HA.out
      rw [List.drop_eq_nil_of_le (by omega)] at hh
      have : r = false := by simpa [GOdd.l0] using hh.symm
      subst this
      go_wp2
      go_ret
      exact ⟨⟨-1, rfl, Or.inl rfl, by decide⟩, HB.out⟩
theorem GOdd.calls (A0 : Option Addr) (c0 : Nat) (l0 : List ByteArray) (r : Bool) (w : World) (hr0 : Kd.C Kd.string w A0 l0.length l0) (_hc0 : l0.length ≤ c0) (h : GOdd.f l0 = some r) :
    Calls Tryd.prog 22 #[.slice A0 l0.length c0, .func (.func 34) #[] #[]] w fun e w' => e = .returned (.bool r) ∧ Below w.heap.size w w' := by
  have C := Aside0.mk (GOdd.index A0 c0 l0 r w hr0 h)
  clear hr0 h
  generalize l0.length = n at *
  go_enter Tryd.func22, Tryd.ntmps22
  go_wp2_with (go_at_call 33; (with_reducible refine C.out.mono ?_); rintro e w' ⟨⟨i, rfl, hi, rfl⟩, hb⟩)
  go_ret
  exact ⟨rfl, hb⟩
end Go.Proofs.YtefomcoimbnalaaDoor.GGlb
