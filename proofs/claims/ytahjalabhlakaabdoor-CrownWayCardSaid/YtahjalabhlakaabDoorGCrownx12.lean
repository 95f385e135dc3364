/- printed for this claim by gprint.py, a program of this session, that drives the kit's printer. -/
import Derived.Test.YtahjalabhlakaabDoorGCrownx0
import Derived.Test.YtahjalabhlakaabDoorGCrownx2
import Derived.Test.YtahjalabhlakaabDoorGCrownx6
import Derived.Test.YtahjalabhlakaabDoorGCrownx7
namespace Go.Proofs.YtahjalabhlakaabDoor.GCrown
open Go.RowKit Go.Proofs.YtahjalabhlakaabDoorW.PrintWords Go.Proofs.YtahjalabhlakaabDoorW.PrintLast Go.Proofs.YtahjalabhlakaabDoorW.PrintMore
attribute [local go_sem] max2_int min2_int max_two min_two max_three min_three max_four min_four   -- for this text's walks alone
set_option linter.unusedVariables false
set_option linter.unusedSimpArgs false

/-! ### wainwrightlaw10_CrownCards: function 4 -/
def wainwrightlaw10_CrownCards.j0 : Nat → Int → Int → Int → Int → Int → Int → Int → Int → Bool → Option (Bool)
  | 0, _, _, _, _, _, _, _, _, _ => none
  | k + 1, x0, x1, x5, x6, x7, x8, x9, x10, x30 => if x30 = true then (if x7 = 5 then (if x5 = 0 then (some (x6 == 0)) else (some false)) else (some false)) else (if x5 < 43 then (some false) else (if x5 > 50 then (some false) else (if x6 < 0 then (some false) else (if x6 > 3 then (some false) else (if x7 = 0 then (if (wrap64 ((wrap64 (4 * (wrap64 (x5 - 43)))) + x6)) = x0 then (if x10 = 0 then (if x5 = x8 then (some ((x0 == x1) == (x6 == x9))) else (some ((x0 == x1) == false))) else (some true)) else (some false)) else (some false))))))
def wainwrightlaw10_CrownCards.f (k : Nat) (a0 : Int) (a1 : Int) : Option (Bool) := (wainwrightlaw10_lives.f k).bind fun t249 => (if t249 = true then ((crown_Card.f a0).bind fun bt250 => ((crown_Card.f a1).bind fun bt253 => (if a0 < 0 then (wainwrightlaw10_CrownCards.j0 k a0 a1 bt250.1 bt250.2.1 bt250.2.2 bt253.1 bt253.2.1 bt253.2.2 true) else (wainwrightlaw10_CrownCards.j0 k a0 a1 bt250.1 bt250.2.1 bt250.2.2 bt253.1 bt253.2.1 bt253.2.2 (decide (a0 > 31)))))) else (some false))
theorem wainwrightlaw10_CrownCards.mono_l : ∀ k, (∀ y0 y1 y2 y3 y4 y5 y6 y7 y8, LeO (wainwrightlaw10_CrownCards.j0 k y0 y1 y2 y3 y4 y5 y6 y7 y8) (wainwrightlaw10_CrownCards.j0 (k + 1) y0 y1 y2 y3 y4 y5 y6 y7 y8))
  | 0 => fun _ _ _ _ _ _ _ _ _ r h => by simp [wainwrightlaw10_CrownCards.j0] at h
  | k + 1 => by
    have ih0 := wainwrightlaw10_CrownCards.mono_l k
    · intro y0 y1 y2 y3 y4 y5 y6 y7 y8
      unfold wainwrightlaw10_CrownCards.j0
      repeat' first
      | (with_reducible exact ih0 _ _ _ _ _ _ _ _ _)
      | (with_reducible exact wainwrightlaw10_lives.mono _)
      | (with_reducible exact LeO.refl _)
      | (with_reducible exact LeO.none _)
      | (with_reducible refine LeO.ite ?_ ?_)
      | (with_reducible refine LeO.bind ?_ (fun _ => ?_))
      | exact ih0 _ _ _ _ _ _ _ _ _
      | exact wainwrightlaw10_lives.mono _
      | exact LeO.none _
      | refine LeO.ite ?_ ?_
      | refine LeO.bind ?_ (fun _ => ?_)
theorem wainwrightlaw10_CrownCards.mono : ∀ a0 a1 k, LeO (wainwrightlaw10_CrownCards.f k a0 a1) (wainwrightlaw10_CrownCards.f (k + 1) a0 a1) := by
  intro a0 a1 k
  have ih0 := wainwrightlaw10_CrownCards.mono_l k
  unfold wainwrightlaw10_CrownCards.f
  repeat' first
      | (with_reducible exact ih0 _ _ _ _ _ _ _ _ _)
      | (with_reducible exact wainwrightlaw10_lives.mono _)
      | (with_reducible exact LeO.refl _)
      | (with_reducible exact LeO.none _)
      | (with_reducible refine LeO.ite ?_ ?_)
      | (with_reducible refine LeO.bind ?_ (fun _ => ?_))
      | exact ih0 _ _ _ _ _ _ _ _ _
      | exact wainwrightlaw10_lives.mono _
      | exact LeO.none _
      | refine LeO.ite ?_ ?_
      | refine LeO.bind ?_ (fun _ => ?_)
set_option maxHeartbeats 8000000 in
set_option maxRecDepth 100000 in
theorem wainwrightlaw10_CrownCards.calls (k : Nat) (a0 : Int) (a1 : Int) (r : Bool) (w : World) (h : wainwrightlaw10_CrownCards.f k a0 a1 = some r) :
    Calls Tryd.prog 4 #[.int .i64 a0, .int .i64 a1] w fun e w' => e = .returned (.bool r) ∧ Below w.heap.size w w' := by
  have HB := Aside0.mk (Below.refl w.heap.size w)
  have H : ((wainwrightlaw10_lives.f k).bind fun t249 => (if t249 = true then ((crown_Card.f a0).bind fun bt250 => ((crown_Card.f a1).bind fun bt253 => (if a0 < 0 then (wainwrightlaw10_CrownCards.j0 k a0 a1 bt250.1 bt250.2.1 bt250.2.2 bt253.1 bt253.2.1 bt253.2.2 true) else (wainwrightlaw10_CrownCards.j0 k a0 a1 bt250.1 bt250.2.1 bt250.2.2 bt253.1 bt253.2.1 bt253.2.2 (decide (a0 > 31)))))) else (some false))) = some r := h
  clear h
  replace H := Option.bind_eq_some_iff.mp H
  obtain ⟨t249, A30, H⟩ := H
  replace H : (if t249 = true then ((crown_Card.f a0).bind fun bt250 => ((crown_Card.f a1).bind fun bt253 => (if a0 < 0 then (wainwrightlaw10_CrownCards.j0 k a0 a1 bt250.1 bt250.2.1 bt250.2.2 bt253.1 bt253.2.1 bt253.2.2 true) else (wainwrightlaw10_CrownCards.j0 k a0 a1 bt250.1 bt250.2.1 bt250.2.2 bt253.1 bt253.2.1 bt253.2.2 (decide (a0 > 31)))))) else (some false)) = some r := H
  have A3 := Aside0.mk A30
  clear A30
  by_cases c4 : t249 = true
  · subst c4
    have H1 : ((crown_Card.f a0).bind fun bt250 => ((crown_Card.f a1).bind fun bt253 => (if a0 < 0 then (wainwrightlaw10_CrownCards.j0 k a0 a1 bt250.1 bt250.2.1 bt250.2.2 bt253.1 bt253.2.1 bt253.2.2 true) else (wainwrightlaw10_CrownCards.j0 k a0 a1 bt250.1 bt250.2.1 bt250.2.2 bt253.1 bt253.2.1 bt253.2.2 (decide (a0 > 31)))))) = some r := by rw [if_pos rfl] at H; exact H
    clear H
    have H := H1
    clear H1
    replace H := Option.bind_eq_some_iff.mp H
    obtain ⟨⟨t250, t251, t252⟩, A50, H⟩ := H
    replace H : ((crown_Card.f a1).bind fun bt253 => (if a0 < 0 then (wainwrightlaw10_CrownCards.j0 k a0 a1 t250 t251 t252 bt253.1 bt253.2.1 bt253.2.2 true) else (wainwrightlaw10_CrownCards.j0 k a0 a1 t250 t251 t252 bt253.1 bt253.2.1 bt253.2.2 (decide (a0 > 31))))) = some r := H
    have A5 := Aside0.mk A50
    clear A50
    replace H := Option.bind_eq_some_iff.mp H
    obtain ⟨⟨t253, t254, t255⟩, A60, H⟩ := H
    replace H : (if a0 < 0 then (wainwrightlaw10_CrownCards.j0 k a0 a1 t250 t251 t252 t253 t254 t255 true) else (wainwrightlaw10_CrownCards.j0 k a0 a1 t250 t251 t252 t253 t254 t255 (decide (a0 > 31)))) = some r := H
    have A6 := Aside0.mk A60
    clear A60
    have HC7 := Aside0.mk H
    clear H
    go_enter Tryd.func4, Tryd.ntmps4
    go_upto_region 5 with (first | ((with_reducible refine gate_callee (f := 8) rfl ?_); refine goesL_ (some 11) rfl rfl Tryd.func8 (by kernel_rfl) rfl #[] rfl (by (try simp only [List.map_toArray, List.map_cons, List.map_nil]); first | done | rfl | (simp only [List.length_drop, List.length_take]; rfl)) ?_; (with_reducible refine (wainwrightlaw10_lives.calls k  true _ A3.out).mono ?_); rintro e w8 ⟨rfl, hb⟩; refine ⟨_, rfl, ?_⟩; have n0_ := Aside0.mk (below_step (by repeat (first | (with_reducible first | exact HB.out | apply below_alloc | apply pw_below_drewN | apply below_drew1) | exact HB.out)) hb); clear HB; have HB := n0_; clear n0_; (try clear hb); (try clear hb2); (try clear hk); (try clear hi)) | ((with_reducible refine gate_callee (f := 12) rfl ?_); refine goesL_ (some 15) rfl rfl Tryd.func12 (by kernel_rfl) rfl #[.int .i64 a0] rfl (by (try simp only [List.map_toArray, List.map_cons, List.map_nil]); first | done | rfl | (simp only [List.length_drop, List.length_take]; rfl)) ?_; (with_reducible refine (crown_Card.calls a0 t250 t251 t252 _ A5.out).mono ?_); rintro e w' ⟨rfl, ⟨nd, rfl⟩⟩; refine ⟨_, rfl, ?_⟩) | ((with_reducible refine gate_callee (f := 12) rfl ?_); refine goesL_ (some 21) rfl rfl Tryd.func12 (by kernel_rfl) rfl #[.int .i64 a1] rfl (by (try simp only [List.map_toArray, List.map_cons, List.map_nil]); first | done | rfl | (simp only [List.length_drop, List.length_take]; rfl)) ?_; (with_reducible refine (crown_Card.calls a1 t253 t254 t255 _ A6.out).mono ?_); rintro e w' ⟨rfl, ⟨nd, rfl⟩⟩; refine ⟨_, rfl, ?_⟩))
    (try simp only [Act.put, List.setIfInBounds_toArray, List.set_cons_zero, List.set_cons_succ])
    go_cut [30] (fun v30 wc => ∃ (kq : Nat) (x30_6 : Bool), v30 = .bool x30_6 ∧ Aside0 (wainwrightlaw10_CrownCards.j0 kq a0 a1 t250 t251 t252 t253 t254 t255 x30_6 = some r) ∧ Aside0 (kq ≤ k) ∧ Aside0 (Below w.heap.size w wc))
    case first =>
      have H := HC7.out
      clear HC7
      by_cases c9 : a0 < 0
      · rw [if_pos c9] at H
        have c9b0 : decide (a0 < 0) = true := decide_eq_true c9
        clear c9
        (first | rw [c9b0] | (simp only [i64_w, i32_w]; rw [c9b0]) | skip)
        have H' := Aside0.mk H
        clear H
        go_wp2
        go_meet
        case rel => exact ⟨_, (true), (by first | rfl | (simp; done) | (simp [*]; done) | exact gw_ne _ | exact gw_eq _), H', ⟨by first | omega | exact Nat.le_refl _⟩, ⟨by repeat (first | (with_reducible first | exact HB.out | apply below_alloc | apply pw_below_drewN | apply below_drew1) | exact HB.out)⟩⟩
      · rw [if_neg c9] at H
        have c9b0 : decide (a0 < 0) = false := decide_eq_false c9
        clear c9
        (first | rw [c9b0] | (simp only [i64_w, i32_w]; rw [c9b0]) | skip)
        have H' := Aside0.mk H
        clear H
        go_wp2
        go_meet
        case rel => exact ⟨_, (decide (a0 > 31)), (by first | rfl | (simp; done) | (simp [*]; done) | exact gw_ne _ | exact gw_eq _), H', ⟨by first | omega | exact Nat.le_refl _⟩, ⟨by repeat (first | (with_reducible first | exact HB.out | apply below_alloc | apply pw_below_drewN | apply below_drew1) | exact HB.out)⟩⟩
    case rest =>
      clear HC7
      try clear c1
      try clear p2
      try clear c4
      try clear c8
      try clear c9
      try clear c9b0
      obtain ⟨kq, x30_6, rfl, HA, HJ6, HB⟩ := hcut
      cases kq with
      | zero => exact absurd HA.out (by simp [wainwrightlaw10_CrownCards.j0])
      | succ kj6 =>
        have H := HA.out
        clear HA
        simp only [wainwrightlaw10_CrownCards.j0] at H
        by_cases c10 : x30_6 = true
        · subst c10
          have H1 : (if t252 = 5 then (if t250 = 0 then (some (t251 == 0)) else (some false)) else (some false)) = some r := by rw [if_pos rfl] at H; exact H
          clear H
          have H := H1
          clear H1
          by_cases c11 : t252 = 5
          · rw [if_pos c11] at H
            have c11b0 : (t252 == 5) = true := beq_iff_eq.mpr c11
            have c11b1 : (t252 != 5) = false := bne_eq_false_iff_eq.mpr c11
            clear c11
            by_cases c12 : t250 = 0
            · rw [if_pos c12] at H
              have c12b0 : (t250 == 0) = true := beq_iff_eq.mpr c12
              have c12b1 : (t250 != 0) = false := bne_eq_false_iff_eq.mpr c12
              clear c12
              obtain rfl := Option.some.inj H
              go_wp2
              go_ret
              exact ⟨by first | rfl | (simp [errW_none, errW_some] <;> rfl) | (simp [*, errW_none, errW_some] <;> rfl), by repeat (first | (with_reducible first | exact HB.out | apply below_alloc | apply pw_below_drewN | apply below_drew1) | exact HB.out)⟩
            · rw [if_neg c12] at H
              have c12b0 : (t250 == 0) = false := beq_eq_false_iff_ne.mpr c12
              have c12b1 : (t250 != 0) = true := bne_iff_ne.mpr c12
              obtain rfl := Option.some.inj H
              go_wp2
              go_ret
              exact ⟨by first | rfl | (simp [errW_none, errW_some] <;> rfl) | (simp [*, errW_none, errW_some] <;> rfl), by repeat (first | (with_reducible first | exact HB.out | apply below_alloc | apply pw_below_drewN | apply below_drew1) | exact HB.out)⟩
          · rw [if_neg c11] at H
            have c11b0 : (t252 == 5) = false := beq_eq_false_iff_ne.mpr c11
            have c11b1 : (t252 != 5) = true := bne_iff_ne.mpr c11
            obtain rfl := Option.some.inj H
            go_wp2
            go_ret
            exact ⟨by first | rfl | (simp [errW_none, errW_some] <;> rfl) | (simp [*, errW_none, errW_some] <;> rfl), by repeat (first | (with_reducible first | exact HB.out | apply below_alloc | apply pw_below_drewN | apply below_drew1) | exact HB.out)⟩
        · replace c10 := Bool.eq_false_iff.mpr c10
          subst c10
          have H1 : (if t250 < 43 then (some false) else (if t250 > 50 then (some false) else (if t251 < 0 then (some false) else (if t251 > 3 then (some false) else (if t252 = 0 then (if (wrap64 ((wrap64 (4 * (wrap64 (t250 - 43)))) + t251)) = a0 then (if t255 = 0 then (if t250 = t253 then (some ((a0 == a1) == (t251 == t254))) else (some ((a0 == a1) == false))) else (some true)) else (some false)) else (some false)))))) = some r := by rw [if_neg (show ¬ (false = true) by decide)] at H; exact H
          clear H
          have H := H1
          clear H1
          by_cases c13 : t250 < 43
          · rw [if_pos c13] at H
            have c13b0 : decide (t250 < 43) = true := decide_eq_true c13
            clear c13
            obtain rfl := Option.some.inj H
            go_wp2
            go_ret
            exact ⟨by first | rfl | (simp [errW_none, errW_some] <;> rfl) | (simp [*, errW_none, errW_some] <;> rfl), by repeat (first | (with_reducible first | exact HB.out | apply below_alloc | apply pw_below_drewN | apply below_drew1) | exact HB.out)⟩
          · rw [if_neg c13] at H
            have c13b0 : decide (t250 < 43) = false := decide_eq_false c13
            clear c13
            by_cases c14 : t250 > 50
            · rw [if_pos c14] at H
              have c14b0 : decide (50 < t250) = true := decide_eq_true c14
              clear c14
              obtain rfl := Option.some.inj H
              go_wp2
              go_ret
              exact ⟨by first | rfl | (simp [errW_none, errW_some] <;> rfl) | (simp [*, errW_none, errW_some] <;> rfl), by repeat (first | (with_reducible first | exact HB.out | apply below_alloc | apply pw_below_drewN | apply below_drew1) | exact HB.out)⟩
            · rw [if_neg c14] at H
              have c14b0 : decide (50 < t250) = false := decide_eq_false c14
              clear c14
              by_cases c15 : t251 < 0
              · rw [if_pos c15] at H
                have c15b0 : decide (t251 < 0) = true := decide_eq_true c15
                clear c15
                obtain rfl := Option.some.inj H
                go_wp2
                go_ret
                exact ⟨by first | rfl | (simp [errW_none, errW_some] <;> rfl) | (simp [*, errW_none, errW_some] <;> rfl), by repeat (first | (with_reducible first | exact HB.out | apply below_alloc | apply pw_below_drewN | apply below_drew1) | exact HB.out)⟩
              · rw [if_neg c15] at H
                have c15b0 : decide (t251 < 0) = false := decide_eq_false c15
                clear c15
                by_cases c16 : t251 > 3
                · rw [if_pos c16] at H
                  have c16b0 : decide (3 < t251) = true := decide_eq_true c16
                  clear c16
                  obtain rfl := Option.some.inj H
                  go_wp2
                  go_ret
                  exact ⟨by first | rfl | (simp [errW_none, errW_some] <;> rfl) | (simp [*, errW_none, errW_some] <;> rfl), by repeat (first | (with_reducible first | exact HB.out | apply below_alloc | apply pw_below_drewN | apply below_drew1) | exact HB.out)⟩
                · rw [if_neg c16] at H
                  have c16b0 : decide (3 < t251) = false := decide_eq_false c16
                  clear c16
                  by_cases c17 : t252 = 0
                  · rw [if_pos c17] at H
                    have c17b0 : (t252 == 0) = true := beq_iff_eq.mpr c17
                    have c17b1 : (t252 != 0) = false := bne_eq_false_iff_eq.mpr c17
                    clear c17
                    by_cases c18 : (wrap64 ((wrap64 (4 * (wrap64 (t250 - 43)))) + t251)) = a0
                    · rw [if_pos c18] at H
                      have c18b0 : ((wrap64 ((wrap64 (4 * (wrap64 (t250 - 43)))) + t251)) == a0) = true := beq_iff_eq.mpr c18
                      have c18b1 : ((wrap64 ((wrap64 (4 * (wrap64 (t250 - 43)))) + t251)) != a0) = false := bne_eq_false_iff_eq.mpr c18
                      clear c18
                      by_cases c19 : t255 = 0
                      · rw [if_pos c19] at H
                        have c19b0 : (t255 == 0) = true := beq_iff_eq.mpr c19
                        have c19b1 : (t255 != 0) = false := bne_eq_false_iff_eq.mpr c19
                        clear c19
                        by_cases c20 : t250 = t253
                        · rw [if_pos c20] at H
                          have c20b0 : (t250 == t253) = true := beq_iff_eq.mpr c20
                          have c20b1 : (t250 != t253) = false := bne_eq_false_iff_eq.mpr c20
                          clear c20
                          obtain rfl := Option.some.inj H
                          go_wp2
                          go_ret
                          exact ⟨by first | rfl | (simp [errW_none, errW_some] <;> rfl) | (simp [*, errW_none, errW_some] <;> rfl), by repeat (first | (with_reducible first | exact HB.out | apply below_alloc | apply pw_below_drewN | apply below_drew1) | exact HB.out)⟩
                        · rw [if_neg c20] at H
                          have c20b0 : (t250 == t253) = false := beq_eq_false_iff_ne.mpr c20
                          have c20b1 : (t250 != t253) = true := bne_iff_ne.mpr c20
                          obtain rfl := Option.some.inj H
                          go_wp2
                          go_ret
                          exact ⟨by first | rfl | (simp [errW_none, errW_some] <;> rfl) | (simp [*, errW_none, errW_some] <;> rfl), by repeat (first | (with_reducible first | exact HB.out | apply below_alloc | apply pw_below_drewN | apply below_drew1) | exact HB.out)⟩
                      · rw [if_neg c19] at H
                        have c19b0 : (t255 == 0) = false := beq_eq_false_iff_ne.mpr c19
                        have c19b1 : (t255 != 0) = true := bne_iff_ne.mpr c19
                        obtain rfl := Option.some.inj H
                        go_wp2
                        go_ret
                        exact ⟨by first | rfl | (simp [errW_none, errW_some] <;> rfl) | (simp [*, errW_none, errW_some] <;> rfl), by repeat (first | (with_reducible first | exact HB.out | apply below_alloc | apply pw_below_drewN | apply below_drew1) | exact HB.out)⟩
                    · rw [if_neg c18] at H
                      have c18b0 : ((wrap64 ((wrap64 (4 * (wrap64 (t250 - 43)))) + t251)) == a0) = false := beq_eq_false_iff_ne.mpr c18
                      have c18b1 : ((wrap64 ((wrap64 (4 * (wrap64 (t250 - 43)))) + t251)) != a0) = true := bne_iff_ne.mpr c18
                      obtain rfl := Option.some.inj H
                      go_wp2
                      go_ret
                      exact ⟨by first | rfl | (simp [errW_none, errW_some] <;> rfl) | (simp [*, errW_none, errW_some] <;> rfl), by repeat (first | (with_reducible first | exact HB.out | apply below_alloc | apply pw_below_drewN | apply below_drew1) | exact HB.out)⟩
                  · rw [if_neg c17] at H
                    have c17b0 : (t252 == 0) = false := beq_eq_false_iff_ne.mpr c17
                    have c17b1 : (t252 != 0) = true := bne_iff_ne.mpr c17
                    obtain rfl := Option.some.inj H
                    go_wp2
                    go_ret
                    exact ⟨by first | rfl | (simp [errW_none, errW_some] <;> rfl) | (simp [*, errW_none, errW_some] <;> rfl), by repeat (first | (with_reducible first | exact HB.out | apply below_alloc | apply pw_below_drewN | apply below_drew1) | exact HB.out)⟩
  · replace c4 := Bool.eq_false_iff.mpr c4
    subst c4
    have H1 : (some false) = some r := by rw [if_neg (show ¬ (false = true) by decide)] at H; exact H
    clear H
    have H := H1
    clear H1
    obtain rfl := Option.some.inj H
    go_enter Tryd.func4, Tryd.ntmps4
    go_wp2_with (first | ((with_reducible refine gate_callee (f := 8) rfl ?_); refine goesL_ (some 11) rfl rfl Tryd.func8 (by kernel_rfl) rfl #[] rfl (by (try simp only [List.map_toArray, List.map_cons, List.map_nil]); first | done | rfl | (simp only [List.length_drop, List.length_take]; rfl)) ?_; (with_reducible refine (wainwrightlaw10_lives.calls k  false _ A3.out).mono ?_); rintro e w21 ⟨rfl, hb⟩; refine ⟨_, rfl, ?_⟩; have n0_ := Aside0.mk (below_step (by repeat (first | (with_reducible first | exact HB.out | apply below_alloc | apply pw_below_drewN | apply below_drew1) | exact HB.out)) hb); clear HB; have HB := n0_; clear n0_; (try clear hb); (try clear hb2); (try clear hk); (try clear hi)))
    go_ret
    exact ⟨by first | rfl | (simp [errW_none, errW_some] <;> rfl) | (simp [*, errW_none, errW_some] <;> rfl), by repeat (first | (with_reducible first | exact HB.out | apply below_alloc | apply pw_below_drewN | apply below_drew1) | exact HB.out)⟩

/-- THE ONE PURE STATEMENT of wainwrightlaw10_CrownCards: yours. -/
def wainwrightlaw10_CrownCards.Pure : Prop := ∀ (a0 : Int) (a1 : Int), (Lit.int .i64 a0).wf = true → (Lit.int .i64 a1).wf = true → ∃ k, wainwrightlaw10_CrownCards.f k a0 a1 = some true
theorem wainwrightlaw10_CrownCards.walk (P : wainwrightlaw10_CrownCards.Pure) (a0 : Int) (a1 : Int) (w : World) (w0 : (Lit.int .i64 a0).wf = true) (w1 : (Lit.int .i64 a1).wf = true) :
    Calls Tryd.prog 4 #[.int .i64 a0, .int .i64 a1] w fun e w' => e = .returned (.bool true) ∧ Below w.heap.size w w' := by
  obtain ⟨k, h⟩ := P a0 a1 w0 w1
  refine (wainwrightlaw10_CrownCards.calls k a0 a1 true w h).mono ?_
  rintro e w' ⟨rfl, hd⟩
  exact ⟨rfl, hd⟩

/-! ### crown_Format: function 16 -/
def crown_Format.j0 : Nat → Int → Bool → Int → Int → Int → Option (Int)
  | 0, _, _, _, _, _ => none
  | k + 1, x1, x15, x257000, x257001, x257002 => if x15 = true then (some 0) else (if x257000 ≤ 2 then (some x257000) else (if x1 < x257002 then (some 2) else (some 1)))
def crown_Format.f (k : Nat) (a0_0 : Int) (a0_1 : Int) (a0_2 : Int) (a1 : Int) : Option (Int) := (crown_Right.f k a0_0 a0_1 a0_2).bind fun t257 => (if t257 = true then (if a1 < 0 then (crown_Format.j0 k a1 true a0_0 a0_1 a0_2) else (crown_Format.j0 k a1 (decide (a1 ≥ 32)) a0_0 a0_1 a0_2)) else (crown_Format.j0 k a1 true a0_0 a0_1 a0_2))
theorem crown_Format.mono_l : ∀ k, (∀ y0 y1 y2 y3 y4, LeO (crown_Format.j0 k y0 y1 y2 y3 y4) (crown_Format.j0 (k + 1) y0 y1 y2 y3 y4))
  | 0 => fun _ _ _ _ _ r h => by simp [crown_Format.j0] at h
  | k + 1 => by
    have ih0 := crown_Format.mono_l k
    · intro y0 y1 y2 y3 y4
      unfold crown_Format.j0
      repeat' first
      | (with_reducible exact ih0 _ _ _ _ _)
      | (with_reducible exact crown_Right.mono _ _ _ _)
      | (with_reducible exact LeO.refl _)
      | (with_reducible exact LeO.none _)
      | (with_reducible refine LeO.ite ?_ ?_)
      | (with_reducible refine LeO.bind ?_ (fun _ => ?_))
      | exact ih0 _ _ _ _ _
      | exact crown_Right.mono _ _ _ _
      | exact LeO.none _
      | refine LeO.ite ?_ ?_
      | refine LeO.bind ?_ (fun _ => ?_)
theorem crown_Format.mono : ∀ a0 a1 a2 a3 k, LeO (crown_Format.f k a0 a1 a2 a3) (crown_Format.f (k + 1) a0 a1 a2 a3) := by
  intro a0 a1 a2 a3 k
  have ih0 := crown_Format.mono_l k
  unfold crown_Format.f
  repeat' first
      | (with_reducible exact ih0 _ _ _ _ _)
      | (with_reducible exact crown_Right.mono _ _ _ _)
      | (with_reducible exact LeO.refl _)
      | (with_reducible exact LeO.none _)
      | (with_reducible refine LeO.ite ?_ ?_)
      | (with_reducible refine LeO.bind ?_ (fun _ => ?_))
      | exact ih0 _ _ _ _ _
      | exact crown_Right.mono _ _ _ _
      | exact LeO.none _
      | refine LeO.ite ?_ ?_
      | refine LeO.bind ?_ (fun _ => ?_)
set_option maxHeartbeats 8000000 in
set_option maxRecDepth 100000 in
theorem crown_Format.calls (k : Nat) (a0_0 : Int) (a0_1 : Int) (a0_2 : Int) (a1 : Int) (r : Int) (w : World) (h : crown_Format.f k a0_0 a0_1 a0_2 a1 = some r) :
    Calls Tryd.prog 16 #[.agg #[.int .i64 a0_0, .int .i64 a0_1, .int .i64 a0_2], .int .i64 a1] w fun e w' => e = .returned (.int .i64 r) ∧ Below w.heap.size w w' := by
  have hu23 := Tryd.underlying23
  have HB := Aside0.mk (Below.refl w.heap.size w)
  have H : ((crown_Right.f k a0_0 a0_1 a0_2).bind fun t257 => (if t257 = true then (if a1 < 0 then (crown_Format.j0 k a1 true a0_0 a0_1 a0_2) else (crown_Format.j0 k a1 (decide (a1 ≥ 32)) a0_0 a0_1 a0_2)) else (crown_Format.j0 k a1 true a0_0 a0_1 a0_2))) = some r := h
  clear h
  have HC3 := Aside0.mk H
  clear H
  go_enter Tryd.func16, Tryd.ntmps16
  go_upto_region 1 with (first | ((with_reducible refine gate_dst (N := 2) rfl ?_); refine box_event ?hg (N := 2) ?hd (cs := #[.int .i64 a0_0, .int .i64 a0_1, .int .i64 a0_2]) (t := 23) ?hr ?_; (case hd => rfl); (case hg => rfl); (case hr => first | (go_simp; done) | (go_simp; rfl)); intro gb256 hg w4 hbox hb; have n0_ := Aside0.mk (below_step (by repeat (first | (with_reducible first | exact HB.out | apply below_alloc | apply pw_below_drewN | apply below_drew1) | exact HB.out)) hb); have n1_ := Aside0.mk (hbox); have n2_ := Aside0.mk ((by rw [hg]; exact (below_size (by repeat (first | (with_reducible first | exact HB.out | apply below_alloc | apply pw_below_drewN | apply below_drew1) | exact HB.out))) : w.heap.size ≤ gb256)); have n3_ := Aside0.mk ((by rw [hg]; exact (below_size (by repeat (first | (with_reducible first | exact HB.out | apply below_alloc | apply pw_below_drewN | apply below_drew1) | exact HB.out))) : w.heap.size ≤ gb256)); clear HB; have HB := n0_; have BK256 := n1_; have GW256 := n2_; have GE256 := n3_; clear n0_ n1_ n2_ n3_; clear hb hbox hg))
  (try simp only [Act.put, List.setIfInBounds_toArray, List.set_cons_zero, List.set_cons_succ])
  go_cut [15] (fun v15 wc => ∃ (kq : Nat) (x15_2 : Bool), v15 = .bool x15_2 ∧ Aside0 (crown_Format.j0 kq a1 x15_2 a0_0 a0_1 a0_2 = some r) ∧ Aside0 (kq ≤ k) ∧ Aside0 (wc.heap[gb256]? = some (.cells #[.int .i64 a0_0, .int .i64 a0_1, .int .i64 a0_2] 23 (0, 0))) ∧ Aside0 (Below w.heap.size w wc))
  case first =>
    have H := HC3.out
    clear HC3
    replace H := Option.bind_eq_some_iff.mp H
    obtain ⟨t257, A50, H⟩ := H
    replace H : (if t257 = true then (if a1 < 0 then (crown_Format.j0 k a1 true a0_0 a0_1 a0_2) else (crown_Format.j0 k a1 (decide (a1 ≥ 32)) a0_0 a0_1 a0_2)) else (crown_Format.j0 k a1 true a0_0 a0_1 a0_2)) = some r := H
    have A5 := Aside0.mk A50
    clear A50
    by_cases c6 : t257 = true
    · subst c6
      have H1 : (if a1 < 0 then (crown_Format.j0 k a1 true a0_0 a0_1 a0_2) else (crown_Format.j0 k a1 (decide (a1 ≥ 32)) a0_0 a0_1 a0_2)) = some r := by rw [if_pos rfl] at H; exact H
      clear H
      have H := H1
      clear H1
      by_cases c7 : a1 < 0
      · rw [if_pos c7] at H
        have c7b0 : decide (a1 < 0) = true := decide_eq_true c7
        clear c7
        (first | rw [c7b0] | (simp only [i64_w, i32_w]; rw [c7b0]) | skip)
        have H' := Aside0.mk H
        clear H
        have hcz8_0 : w4.cell? ⟨gb256, 0, none⟩ = some (.int .i64 a0_0) := (blk_cell BK256.out 0).trans rfl
        have hcz8_1 : w4.cell? ⟨gb256, 1, none⟩ = some (.int .i64 a0_1) := (blk_cell BK256.out 1).trans rfl
        have hcz8_2 : w4.cell? ⟨gb256, 2, none⟩ = some (.int .i64 a0_2) := (blk_cell BK256.out 2).trans rfl
        have hfz8_0 := blk_frozen BK256.out 0
        have hfz8_1 := blk_frozen BK256.out 1
        have hfz8_2 := blk_frozen BK256.out 2
        go_wp2_with (first | ((with_reducible refine gate_callee (f := 14) rfl ?_); refine goesL_ (some 6) rfl rfl Tryd.func14 (by kernel_rfl) rfl #[.agg #[.int .i64 a0_0, .int .i64 a0_1, .int .i64 a0_2]] rfl (by (try simp only [List.map_toArray, List.map_cons, List.map_nil]); first | done | rfl | (simp only [List.length_drop, List.length_take]; rfl)) ?_; (with_reducible refine (crown_Right.calls k a0_0 a0_1 a0_2 true _ A5.out).mono ?_); rintro e w9 ⟨rfl, hb⟩; refine ⟨_, rfl, ?_⟩; have n0_ := Aside0.mk (blk_below (g := gb256) (o := .cells #[.int .i64 a0_0, .int .i64 a0_1, .int .i64 a0_2] 23 (0, 0)) (by (with_reducible repeat (first | refine blk_drewN ?_ _ | refine blk_drew ?_ | refine blk_alloc ?_ _)); exact BK256.out) hb); have n1_ := Aside0.mk (below_step (by repeat (first | (with_reducible first | exact HB.out | apply below_alloc | apply pw_below_drewN | apply below_drew1 | refine below_set ?_ GE256.out) | exact HB.out)) hb); clear BK256; clear HB; have BK256 := n0_; have HB := n1_; clear n0_ n1_; (try clear hb); (try clear hb2); (try clear hk); (try clear hi)))
        go_meet
        case rel => exact ⟨_, (true), (by first | rfl | (simp; done) | (simp [*]; done) | exact gw_ne _ | exact gw_eq _), H', ⟨by first | omega | exact Nat.le_refl _⟩, ⟨by (with_reducible repeat (first | refine blk_drewN ?_ _ | refine blk_drew ?_ | refine blk_alloc ?_ _)); exact BK256.out⟩, ⟨by repeat (first | (with_reducible first | exact HB.out | apply below_alloc | apply pw_below_drewN | apply below_drew1 | refine below_set ?_ GE256.out) | exact HB.out)⟩⟩
      · rw [if_neg c7] at H
        have c7b0 : decide (a1 < 0) = false := decide_eq_false c7
        clear c7
        (first | rw [c7b0] | (simp only [i64_w, i32_w]; rw [c7b0]) | skip)
        have H' := Aside0.mk H
        clear H
        have hcz10_0 : w4.cell? ⟨gb256, 0, none⟩ = some (.int .i64 a0_0) := (blk_cell BK256.out 0).trans rfl
        have hcz10_1 : w4.cell? ⟨gb256, 1, none⟩ = some (.int .i64 a0_1) := (blk_cell BK256.out 1).trans rfl
        have hcz10_2 : w4.cell? ⟨gb256, 2, none⟩ = some (.int .i64 a0_2) := (blk_cell BK256.out 2).trans rfl
        have hfz10_0 := blk_frozen BK256.out 0
        have hfz10_1 := blk_frozen BK256.out 1
        have hfz10_2 := blk_frozen BK256.out 2
        go_wp2_with (first | ((with_reducible refine gate_callee (f := 14) rfl ?_); refine goesL_ (some 6) rfl rfl Tryd.func14 (by kernel_rfl) rfl #[.agg #[.int .i64 a0_0, .int .i64 a0_1, .int .i64 a0_2]] rfl (by (try simp only [List.map_toArray, List.map_cons, List.map_nil]); first | done | rfl | (simp only [List.length_drop, List.length_take]; rfl)) ?_; (with_reducible refine (crown_Right.calls k a0_0 a0_1 a0_2 true _ A5.out).mono ?_); rintro e w11 ⟨rfl, hb⟩; refine ⟨_, rfl, ?_⟩; have n0_ := Aside0.mk (blk_below (g := gb256) (o := .cells #[.int .i64 a0_0, .int .i64 a0_1, .int .i64 a0_2] 23 (0, 0)) (by (with_reducible repeat (first | refine blk_drewN ?_ _ | refine blk_drew ?_ | refine blk_alloc ?_ _)); exact BK256.out) hb); have n1_ := Aside0.mk (below_step (by repeat (first | (with_reducible first | exact HB.out | apply below_alloc | apply pw_below_drewN | apply below_drew1 | refine below_set ?_ GE256.out) | exact HB.out)) hb); clear BK256; clear HB; have BK256 := n0_; have HB := n1_; clear n0_ n1_; (try clear hb); (try clear hb2); (try clear hk); (try clear hi)))
        go_meet
        case rel => exact ⟨_, (decide (a1 ≥ 32)), (by first | rfl | (simp; done) | (simp [*]; done) | exact gw_ne _ | exact gw_eq _), H', ⟨by first | omega | exact Nat.le_refl _⟩, ⟨by (with_reducible repeat (first | refine blk_drewN ?_ _ | refine blk_drew ?_ | refine blk_alloc ?_ _)); exact BK256.out⟩, ⟨by repeat (first | (with_reducible first | exact HB.out | apply below_alloc | apply pw_below_drewN | apply below_drew1 | refine below_set ?_ GE256.out) | exact HB.out)⟩⟩
    · replace c6 := Bool.eq_false_iff.mpr c6
      subst c6
      have H1 : (crown_Format.j0 k a1 true a0_0 a0_1 a0_2) = some r := by rw [if_neg (show ¬ (false = true) by decide)] at H; exact H
      clear H
      have H := H1
      clear H1
      have H' := Aside0.mk H
      clear H
      have hcz12_0 : w4.cell? ⟨gb256, 0, none⟩ = some (.int .i64 a0_0) := (blk_cell BK256.out 0).trans rfl
      have hcz12_1 : w4.cell? ⟨gb256, 1, none⟩ = some (.int .i64 a0_1) := (blk_cell BK256.out 1).trans rfl
      have hcz12_2 : w4.cell? ⟨gb256, 2, none⟩ = some (.int .i64 a0_2) := (blk_cell BK256.out 2).trans rfl
      have hfz12_0 := blk_frozen BK256.out 0
      have hfz12_1 := blk_frozen BK256.out 1
      have hfz12_2 := blk_frozen BK256.out 2
      go_wp2_with (first | ((with_reducible refine gate_callee (f := 14) rfl ?_); refine goesL_ (some 6) rfl rfl Tryd.func14 (by kernel_rfl) rfl #[.agg #[.int .i64 a0_0, .int .i64 a0_1, .int .i64 a0_2]] rfl (by (try simp only [List.map_toArray, List.map_cons, List.map_nil]); first | done | rfl | (simp only [List.length_drop, List.length_take]; rfl)) ?_; (with_reducible refine (crown_Right.calls k a0_0 a0_1 a0_2 false _ A5.out).mono ?_); rintro e w13 ⟨rfl, hb⟩; refine ⟨_, rfl, ?_⟩; have n0_ := Aside0.mk (blk_below (g := gb256) (o := .cells #[.int .i64 a0_0, .int .i64 a0_1, .int .i64 a0_2] 23 (0, 0)) (by (with_reducible repeat (first | refine blk_drewN ?_ _ | refine blk_drew ?_ | refine blk_alloc ?_ _)); exact BK256.out) hb); have n1_ := Aside0.mk (below_step (by repeat (first | (with_reducible first | exact HB.out | apply below_alloc | apply pw_below_drewN | apply below_drew1 | refine below_set ?_ GE256.out) | exact HB.out)) hb); clear BK256; clear HB; have BK256 := n0_; have HB := n1_; clear n0_ n1_; (try clear hb); (try clear hb2); (try clear hk); (try clear hi)))
      go_meet
      case rel => exact ⟨_, (true), (by first | rfl | (simp; done) | (simp [*]; done) | exact gw_ne _ | exact gw_eq _), H', ⟨by first | omega | exact Nat.le_refl _⟩, ⟨by (with_reducible repeat (first | refine blk_drewN ?_ _ | refine blk_drew ?_ | refine blk_alloc ?_ _)); exact BK256.out⟩, ⟨by repeat (first | (with_reducible first | exact HB.out | apply below_alloc | apply pw_below_drewN | apply below_drew1 | refine below_set ?_ GE256.out) | exact HB.out)⟩⟩
  case rest =>
    clear HC3
    try clear c1
    try clear p2
    try clear c6
    try clear c7
    try clear c7b0
    try clear hcz10_0
    try clear hcz10_1
    try clear hcz10_2
    try clear hcz12_0
    try clear hcz12_1
    try clear hcz12_2
    try clear hcz8_0
    try clear hcz8_1
    try clear hcz8_2
    try clear hfz10_0
    try clear hfz10_1
    try clear hfz10_2
    try clear hfz12_0
    try clear hfz12_1
    try clear hfz12_2
    try clear hfz8_0
    try clear hfz8_1
    try clear hfz8_2
    obtain ⟨kq, x15_2, rfl, HA, HJ2, BK256, HB⟩ := hcut
    cases kq with
    | zero => exact absurd HA.out (by simp [crown_Format.j0])
    | succ kj2 =>
      have H := HA.out
      clear HA
      simp only [crown_Format.j0] at H
      by_cases c14 : x15_2 = true
      · subst c14
        have H1 : (some 0) = some r := by rw [if_pos rfl] at H; exact H
        clear H
        have H := H1
        clear H1
        obtain rfl := Option.some.inj H
        go_wp2
        go_ret
        exact ⟨by first | rfl | (simp [errW_none, errW_some] <;> rfl) | (simp [*, errW_none, errW_some] <;> rfl), by repeat (first | (with_reducible first | exact HB.out | apply below_alloc | apply pw_below_drewN | apply below_drew1 | refine below_set ?_ GE256.out) | exact HB.out)⟩
      · replace c14 := Bool.eq_false_iff.mpr c14
        subst c14
        have H1 : (if a0_0 ≤ 2 then (some a0_0) else (if a1 < a0_2 then (some 2) else (some 1))) = some r := by rw [if_neg (show ¬ (false = true) by decide)] at H; exact H
        clear H
        have H := H1
        clear H1
        by_cases c15 : a0_0 ≤ 2
        · rw [if_pos c15] at H
          have c15b0 : decide (a0_0 ≤ 2) = true := decide_eq_true c15
          clear c15
          obtain rfl := Option.some.inj H
          have hcz16_0 : wc.cell? ⟨gb256, 0, none⟩ = some (.int .i64 a0_0) := (blk_cell BK256.out 0).trans rfl
          have hcz16_1 : wc.cell? ⟨gb256, 1, none⟩ = some (.int .i64 a0_1) := (blk_cell BK256.out 1).trans rfl
          have hcz16_2 : wc.cell? ⟨gb256, 2, none⟩ = some (.int .i64 a0_2) := (blk_cell BK256.out 2).trans rfl
          have hfz16_0 := blk_frozen BK256.out 0
          have hfz16_1 := blk_frozen BK256.out 1
          have hfz16_2 := blk_frozen BK256.out 2
          go_wp2
          go_ret
          exact ⟨by first | rfl | (simp [errW_none, errW_some] <;> rfl) | (simp [*, errW_none, errW_some] <;> rfl), by repeat (first | (with_reducible first | exact HB.out | apply below_alloc | apply pw_below_drewN | apply below_drew1 | refine below_set ?_ GE256.out) | exact HB.out)⟩
        · rw [if_neg c15] at H
          have c15b0 : decide (a0_0 ≤ 2) = false := decide_eq_false c15
          clear c15
          by_cases c17 : a1 < a0_2
          · rw [if_pos c17] at H
            have c17b0 : decide (a1 < a0_2) = true := decide_eq_true c17
            clear c17
            obtain rfl := Option.some.inj H
            have hcz18_0 : wc.cell? ⟨gb256, 0, none⟩ = some (.int .i64 a0_0) := (blk_cell BK256.out 0).trans rfl
            have hcz18_1 : wc.cell? ⟨gb256, 1, none⟩ = some (.int .i64 a0_1) := (blk_cell BK256.out 1).trans rfl
            have hcz18_2 : wc.cell? ⟨gb256, 2, none⟩ = some (.int .i64 a0_2) := (blk_cell BK256.out 2).trans rfl
            have hfz18_0 := blk_frozen BK256.out 0
            have hfz18_1 := blk_frozen BK256.out 1
            have hfz18_2 := blk_frozen BK256.out 2
            go_wp2
            go_ret
            exact ⟨by first | rfl | (simp [errW_none, errW_some] <;> rfl) | (simp [*, errW_none, errW_some] <;> rfl), by repeat (first | (with_reducible first | exact HB.out | apply below_alloc | apply pw_below_drewN | apply below_drew1 | refine below_set ?_ GE256.out) | exact HB.out)⟩
          · rw [if_neg c17] at H
            have c17b0 : decide (a1 < a0_2) = false := decide_eq_false c17
            clear c17
            obtain rfl := Option.some.inj H
            have hcz19_0 : wc.cell? ⟨gb256, 0, none⟩ = some (.int .i64 a0_0) := (blk_cell BK256.out 0).trans rfl
            have hcz19_1 : wc.cell? ⟨gb256, 1, none⟩ = some (.int .i64 a0_1) := (blk_cell BK256.out 1).trans rfl
            have hcz19_2 : wc.cell? ⟨gb256, 2, none⟩ = some (.int .i64 a0_2) := (blk_cell BK256.out 2).trans rfl
            have hfz19_0 := blk_frozen BK256.out 0
            have hfz19_1 := blk_frozen BK256.out 1
            have hfz19_2 := blk_frozen BK256.out 2
            go_wp2
            go_ret
            exact ⟨by first | rfl | (simp [errW_none, errW_some] <;> rfl) | (simp [*, errW_none, errW_some] <;> rfl), by repeat (first | (with_reducible first | exact HB.out | apply below_alloc | apply pw_below_drewN | apply below_drew1 | refine below_set ?_ GE256.out) | exact HB.out)⟩

/-! ### wainwrightref10_Format: function 17 -/
def wainwrightref10_Format.j0 : Nat → Int → Bool → Int → Int → Int → Option (Int)
  | 0, _, _, _, _, _ => none
  | k + 1, x1, x15, x259000, x259001, x259002 => if x15 = true then (some 0) else (if x259000 = 1 then (some 1) else (if x259000 > 2 then (if x1 ≥ x259002 then (some 1) else (some 2)) else (some 2)))
def wainwrightref10_Format.f (k : Nat) (a0_0 : Int) (a0_1 : Int) (a0_2 : Int) (a1 : Int) : Option (Int) := (wainwrightref10_Right.f k a0_0 a0_1 a0_2).bind fun t259 => (if t259 = true then (if a1 < 0 then (wainwrightref10_Format.j0 k a1 true a0_0 a0_1 a0_2) else (wainwrightref10_Format.j0 k a1 (decide (a1 ≥ 32)) a0_0 a0_1 a0_2)) else (wainwrightref10_Format.j0 k a1 true a0_0 a0_1 a0_2))
theorem wainwrightref10_Format.mono_l : ∀ k, (∀ y0 y1 y2 y3 y4, LeO (wainwrightref10_Format.j0 k y0 y1 y2 y3 y4) (wainwrightref10_Format.j0 (k + 1) y0 y1 y2 y3 y4))
  | 0 => fun _ _ _ _ _ r h => by simp [wainwrightref10_Format.j0] at h
  | k + 1 => by
    have ih0 := wainwrightref10_Format.mono_l k
    · intro y0 y1 y2 y3 y4
      unfold wainwrightref10_Format.j0
      repeat' first
      | (with_reducible exact ih0 _ _ _ _ _)
      | (with_reducible exact wainwrightref10_Right.mono _ _ _ _)
      | (with_reducible exact LeO.refl _)
      | (with_reducible exact LeO.none _)
      | (with_reducible refine LeO.ite ?_ ?_)
      | (with_reducible refine LeO.bind ?_ (fun _ => ?_))
      | exact ih0 _ _ _ _ _
      | exact wainwrightref10_Right.mono _ _ _ _
      | exact LeO.none _
      | refine LeO.ite ?_ ?_
      | refine LeO.bind ?_ (fun _ => ?_)
theorem wainwrightref10_Format.mono : ∀ a0 a1 a2 a3 k, LeO (wainwrightref10_Format.f k a0 a1 a2 a3) (wainwrightref10_Format.f (k + 1) a0 a1 a2 a3) := by
  intro a0 a1 a2 a3 k
  have ih0 := wainwrightref10_Format.mono_l k
  unfold wainwrightref10_Format.f
  repeat' first
      | (with_reducible exact ih0 _ _ _ _ _)
      | (with_reducible exact wainwrightref10_Right.mono _ _ _ _)
      | (with_reducible exact LeO.refl _)
      | (with_reducible exact LeO.none _)
      | (with_reducible refine LeO.ite ?_ ?_)
      | (with_reducible refine LeO.bind ?_ (fun _ => ?_))
      | exact ih0 _ _ _ _ _
      | exact wainwrightref10_Right.mono _ _ _ _
      | exact LeO.none _
      | refine LeO.ite ?_ ?_
      | refine LeO.bind ?_ (fun _ => ?_)
set_option maxHeartbeats 8000000 in
set_option maxRecDepth 100000 in
theorem wainwrightref10_Format.calls (k : Nat) (a0_0 : Int) (a0_1 : Int) (a0_2 : Int) (a1 : Int) (r : Int) (w : World) (h : wainwrightref10_Format.f k a0_0 a0_1 a0_2 a1 = some r) :
    Calls Tryd.prog 17 #[.agg #[.int .i64 a0_0, .int .i64 a0_1, .int .i64 a0_2], .int .i64 a1] w fun e w' => e = .returned (.int .i64 r) ∧ Below w.heap.size w w' := by
  have hu23 := Tryd.underlying23
  have HB := Aside0.mk (Below.refl w.heap.size w)
  have H : ((wainwrightref10_Right.f k a0_0 a0_1 a0_2).bind fun t259 => (if t259 = true then (if a1 < 0 then (wainwrightref10_Format.j0 k a1 true a0_0 a0_1 a0_2) else (wainwrightref10_Format.j0 k a1 (decide (a1 ≥ 32)) a0_0 a0_1 a0_2)) else (wainwrightref10_Format.j0 k a1 true a0_0 a0_1 a0_2))) = some r := h
  clear h
  have HC3 := Aside0.mk H
  clear H
  go_enter Tryd.func17, Tryd.ntmps17
  go_upto_region 1 with (first | ((with_reducible refine gate_dst (N := 2) rfl ?_); refine box_event ?hg (N := 2) ?hd (cs := #[.int .i64 a0_0, .int .i64 a0_1, .int .i64 a0_2]) (t := 23) ?hr ?_; (case hd => rfl); (case hg => rfl); (case hr => first | (go_simp; done) | (go_simp; rfl)); intro gb258 hg w4 hbox hb; have n0_ := Aside0.mk (below_step (by repeat (first | (with_reducible first | exact HB.out | apply below_alloc | apply pw_below_drewN | apply below_drew1) | exact HB.out)) hb); have n1_ := Aside0.mk (hbox); have n2_ := Aside0.mk ((by rw [hg]; exact (below_size (by repeat (first | (with_reducible first | exact HB.out | apply below_alloc | apply pw_below_drewN | apply below_drew1) | exact HB.out))) : w.heap.size ≤ gb258)); have n3_ := Aside0.mk ((by rw [hg]; exact (below_size (by repeat (first | (with_reducible first | exact HB.out | apply below_alloc | apply pw_below_drewN | apply below_drew1) | exact HB.out))) : w.heap.size ≤ gb258)); clear HB; have HB := n0_; have BK258 := n1_; have GW258 := n2_; have GE258 := n3_; clear n0_ n1_ n2_ n3_; clear hb hbox hg))
  (try simp only [Act.put, List.setIfInBounds_toArray, List.set_cons_zero, List.set_cons_succ])
  go_cut [15] (fun v15 wc => ∃ (kq : Nat) (x15_2 : Bool), v15 = .bool x15_2 ∧ Aside0 (wainwrightref10_Format.j0 kq a1 x15_2 a0_0 a0_1 a0_2 = some r) ∧ Aside0 (kq ≤ k) ∧ Aside0 (wc.heap[gb258]? = some (.cells #[.int .i64 a0_0, .int .i64 a0_1, .int .i64 a0_2] 23 (0, 0))) ∧ Aside0 (Below w.heap.size w wc))
  case first =>
    have H := HC3.out
    clear HC3
    replace H := Option.bind_eq_some_iff.mp H
    obtain ⟨t259, A50, H⟩ := H
    replace H : (if t259 = true then (if a1 < 0 then (wainwrightref10_Format.j0 k a1 true a0_0 a0_1 a0_2) else (wainwrightref10_Format.j0 k a1 (decide (a1 ≥ 32)) a0_0 a0_1 a0_2)) else (wainwrightref10_Format.j0 k a1 true a0_0 a0_1 a0_2)) = some r := H
    have A5 := Aside0.mk A50
    clear A50
    by_cases c6 : t259 = true
    · subst c6
      have H1 : (if a1 < 0 then (wainwrightref10_Format.j0 k a1 true a0_0 a0_1 a0_2) else (wainwrightref10_Format.j0 k a1 (decide (a1 ≥ 32)) a0_0 a0_1 a0_2)) = some r := by rw [if_pos rfl] at H; exact H
      clear H
      have H := H1
      clear H1
      by_cases c7 : a1 < 0
      · rw [if_pos c7] at H
        have c7b0 : decide (a1 < 0) = true := decide_eq_true c7
        clear c7
        (first | rw [c7b0] | (simp only [i64_w, i32_w]; rw [c7b0]) | skip)
        have H' := Aside0.mk H
        clear H
        have hcz8_0 : w4.cell? ⟨gb258, 0, none⟩ = some (.int .i64 a0_0) := (blk_cell BK258.out 0).trans rfl
        have hcz8_1 : w4.cell? ⟨gb258, 1, none⟩ = some (.int .i64 a0_1) := (blk_cell BK258.out 1).trans rfl
        have hcz8_2 : w4.cell? ⟨gb258, 2, none⟩ = some (.int .i64 a0_2) := (blk_cell BK258.out 2).trans rfl
        have hfz8_0 := blk_frozen BK258.out 0
        have hfz8_1 := blk_frozen BK258.out 1
        have hfz8_2 := blk_frozen BK258.out 2
        go_wp2_with (first | ((with_reducible refine gate_callee (f := 15) rfl ?_); refine goesL_ (some 6) rfl rfl Tryd.func15 (by kernel_rfl) rfl #[.agg #[.int .i64 a0_0, .int .i64 a0_1, .int .i64 a0_2]] rfl (by (try simp only [List.map_toArray, List.map_cons, List.map_nil]); first | done | rfl | (simp only [List.length_drop, List.length_take]; rfl)) ?_; (with_reducible refine (wainwrightref10_Right.calls k a0_0 a0_1 a0_2 true _ A5.out).mono ?_); rintro e w9 ⟨rfl, hb⟩; refine ⟨_, rfl, ?_⟩; have n0_ := Aside0.mk (blk_below (g := gb258) (o := .cells #[.int .i64 a0_0, .int .i64 a0_1, .int .i64 a0_2] 23 (0, 0)) (by (with_reducible repeat (first | refine blk_drewN ?_ _ | refine blk_drew ?_ | refine blk_alloc ?_ _)); exact BK258.out) hb); have n1_ := Aside0.mk (below_step (by repeat (first | (with_reducible first | exact HB.out | apply below_alloc | apply pw_below_drewN | apply below_drew1 | refine below_set ?_ GE258.out) | exact HB.out)) hb); clear BK258; clear HB; have BK258 := n0_; have HB := n1_; clear n0_ n1_; (try clear hb); (try clear hb2); (try clear hk); (try clear hi)))
        go_meet
        case rel => exact ⟨_, (true), (by first | rfl | (simp; done) | (simp [*]; done) | exact gw_ne _ | exact gw_eq _), H', ⟨by first | omega | exact Nat.le_refl _⟩, ⟨by (with_reducible repeat (first | refine blk_drewN ?_ _ | refine blk_drew ?_ | refine blk_alloc ?_ _)); exact BK258.out⟩, ⟨by repeat (first | (with_reducible first | exact HB.out | apply below_alloc | apply pw_below_drewN | apply below_drew1 | refine below_set ?_ GE258.out) | exact HB.out)⟩⟩
      · rw [if_neg c7] at H
        have c7b0 : decide (a1 < 0) = false := decide_eq_false c7
        clear c7
        (first | rw [c7b0] | (simp only [i64_w, i32_w]; rw [c7b0]) | skip)
        have H' := Aside0.mk H
        clear H
        have hcz10_0 : w4.cell? ⟨gb258, 0, none⟩ = some (.int .i64 a0_0) := (blk_cell BK258.out 0).trans rfl
        have hcz10_1 : w4.cell? ⟨gb258, 1, none⟩ = some (.int .i64 a0_1) := (blk_cell BK258.out 1).trans rfl
        have hcz10_2 : w4.cell? ⟨gb258, 2, none⟩ = some (.int .i64 a0_2) := (blk_cell BK258.out 2).trans rfl
        have hfz10_0 := blk_frozen BK258.out 0
        have hfz10_1 := blk_frozen BK258.out 1
        have hfz10_2 := blk_frozen BK258.out 2
        go_wp2_with (first | ((with_reducible refine gate_callee (f := 15) rfl ?_); refine goesL_ (some 6) rfl rfl Tryd.func15 (by kernel_rfl) rfl #[.agg #[.int .i64 a0_0, .int .i64 a0_1, .int .i64 a0_2]] rfl (by (try simp only [List.map_toArray, List.map_cons, List.map_nil]); first | done | rfl | (simp only [List.length_drop, List.length_take]; rfl)) ?_; (with_reducible refine (wainwrightref10_Right.calls k a0_0 a0_1 a0_2 true _ A5.out).mono ?_); rintro e w11 ⟨rfl, hb⟩; refine ⟨_, rfl, ?_⟩; have n0_ := Aside0.mk (blk_below (g := gb258) (o := .cells #[.int .i64 a0_0, .int .i64 a0_1, .int .i64 a0_2] 23 (0, 0)) (by (with_reducible repeat (first | refine blk_drewN ?_ _ | refine blk_drew ?_ | refine blk_alloc ?_ _)); exact BK258.out) hb); have n1_ := Aside0.mk (below_step (by repeat (first | (with_reducible first | exact HB.out | apply below_alloc | apply pw_below_drewN | apply below_drew1 | refine below_set ?_ GE258.out) | exact HB.out)) hb); clear BK258; clear HB; have BK258 := n0_; have HB := n1_; clear n0_ n1_; (try clear hb); (try clear hb2); (try clear hk); (try clear hi)))
        go_meet
        case rel => exact ⟨_, (decide (a1 ≥ 32)), (by first | rfl | (simp; done) | (simp [*]; done) | exact gw_ne _ | exact gw_eq _), H', ⟨by first | omega | exact Nat.le_refl _⟩, ⟨by (with_reducible repeat (first | refine blk_drewN ?_ _ | refine blk_drew ?_ | refine blk_alloc ?_ _)); exact BK258.out⟩, ⟨by repeat (first | (with_reducible first | exact HB.out | apply below_alloc | apply pw_below_drewN | apply below_drew1 | refine below_set ?_ GE258.out) | exact HB.out)⟩⟩
    · replace c6 := Bool.eq_false_iff.mpr c6
      subst c6
      have H1 : (wainwrightref10_Format.j0 k a1 true a0_0 a0_1 a0_2) = some r := by rw [if_neg (show ¬ (false = true) by decide)] at H; exact H
      clear H
      have H := H1
      clear H1
      have H' := Aside0.mk H
      clear H
      have hcz12_0 : w4.cell? ⟨gb258, 0, none⟩ = some (.int .i64 a0_0) := (blk_cell BK258.out 0).trans rfl
      have hcz12_1 : w4.cell? ⟨gb258, 1, none⟩ = some (.int .i64 a0_1) := (blk_cell BK258.out 1).trans rfl
      have hcz12_2 : w4.cell? ⟨gb258, 2, none⟩ = some (.int .i64 a0_2) := (blk_cell BK258.out 2).trans rfl
      have hfz12_0 := blk_frozen BK258.out 0
      have hfz12_1 := blk_frozen BK258.out 1
      have hfz12_2 := blk_frozen BK258.out 2
      go_wp2_with (first | ((with_reducible refine gate_callee (f := 15) rfl ?_); refine goesL_ (some 6) rfl rfl Tryd.func15 (by kernel_rfl) rfl #[.agg #[.int .i64 a0_0, .int .i64 a0_1, .int .i64 a0_2]] rfl (by (try simp only [List.map_toArray, List.map_cons, List.map_nil]); first | done | rfl | (simp only [List.length_drop, List.length_take]; rfl)) ?_; (with_reducible refine (wainwrightref10_Right.calls k a0_0 a0_1 a0_2 false _ A5.out).mono ?_); rintro e w13 ⟨rfl, hb⟩; refine ⟨_, rfl, ?_⟩; have n0_ := Aside0.mk (blk_below (g := gb258) (o := .cells #[.int .i64 a0_0, .int .i64 a0_1, .int .i64 a0_2] 23 (0, 0)) (by (with_reducible repeat (first | refine blk_drewN ?_ _ | refine blk_drew ?_ | refine blk_alloc ?_ _)); exact BK258.out) hb); have n1_ := Aside0.mk (below_step (by repeat (first | (with_reducible first | exact HB.out | apply below_alloc | apply pw_below_drewN | apply below_drew1 | refine below_set ?_ GE258.out) | exact HB.out)) hb); clear BK258; clear HB; have BK258 := n0_; have HB := n1_; clear n0_ n1_; (try clear hb); (try clear hb2); (try clear hk); (try clear hi)))
      go_meet
      case rel => exact ⟨_, (true), (by first | rfl | (simp; done) | (simp [*]; done) | exact gw_ne _ | exact gw_eq _), H', ⟨by first | omega | exact Nat.le_refl _⟩, ⟨by (with_reducible repeat (first | refine blk_drewN ?_ _ | refine blk_drew ?_ | refine blk_alloc ?_ _)); exact BK258.out⟩, ⟨by repeat (first | (with_reducible first | exact HB.out | apply below_alloc | apply pw_below_drewN | apply below_drew1 | refine below_set ?_ GE258.out) | exact HB.out)⟩⟩
  case rest =>
    clear HC3
    try clear c1
    try clear p2
    try clear c6
    try clear c7
    try clear c7b0
    try clear hcz10_0
    try clear hcz10_1
    try clear hcz10_2
    try clear hcz12_0
    try clear hcz12_1
    try clear hcz12_2
    try clear hcz8_0
    try clear hcz8_1
    try clear hcz8_2
    try clear hfz10_0
    try clear hfz10_1
    try clear hfz10_2
    try clear hfz12_0
    try clear hfz12_1
    try clear hfz12_2
    try clear hfz8_0
    try clear hfz8_1
    try clear hfz8_2
    obtain ⟨kq, x15_2, rfl, HA, HJ2, BK258, HB⟩ := hcut
    cases kq with
    | zero => exact absurd HA.out (by simp [wainwrightref10_Format.j0])
    | succ kj2 =>
      have H := HA.out
      clear HA
      simp only [wainwrightref10_Format.j0] at H
      by_cases c14 : x15_2 = true
      · subst c14
        have H1 : (some 0) = some r := by rw [if_pos rfl] at H; exact H
        clear H
        have H := H1
        clear H1
        obtain rfl := Option.some.inj H
        go_wp2
        go_ret
        exact ⟨by first | rfl | (simp [errW_none, errW_some] <;> rfl) | (simp [*, errW_none, errW_some] <;> rfl), by repeat (first | (with_reducible first | exact HB.out | apply below_alloc | apply pw_below_drewN | apply below_drew1 | refine below_set ?_ GE258.out) | exact HB.out)⟩
      · replace c14 := Bool.eq_false_iff.mpr c14
        subst c14
        have H1 : (if a0_0 = 1 then (some 1) else (if a0_0 > 2 then (if a1 ≥ a0_2 then (some 1) else (some 2)) else (some 2))) = some r := by rw [if_neg (show ¬ (false = true) by decide)] at H; exact H
        clear H
        have H := H1
        clear H1
        by_cases c15 : a0_0 = 1
        · rw [if_pos c15] at H
          have c15b0 : (a0_0 == 1) = true := beq_iff_eq.mpr c15
          have c15b1 : (a0_0 != 1) = false := bne_eq_false_iff_eq.mpr c15
          clear c15
          obtain rfl := Option.some.inj H
          have hcz16_0 : wc.cell? ⟨gb258, 0, none⟩ = some (.int .i64 a0_0) := (blk_cell BK258.out 0).trans rfl
          have hcz16_1 : wc.cell? ⟨gb258, 1, none⟩ = some (.int .i64 a0_1) := (blk_cell BK258.out 1).trans rfl
          have hcz16_2 : wc.cell? ⟨gb258, 2, none⟩ = some (.int .i64 a0_2) := (blk_cell BK258.out 2).trans rfl
          have hfz16_0 := blk_frozen BK258.out 0
          have hfz16_1 := blk_frozen BK258.out 1
          have hfz16_2 := blk_frozen BK258.out 2
          go_wp2
          go_ret
          exact ⟨by first | rfl | (simp [errW_none, errW_some] <;> rfl) | (simp [*, errW_none, errW_some] <;> rfl), by repeat (first | (with_reducible first | exact HB.out | apply below_alloc | apply pw_below_drewN | apply below_drew1 | refine below_set ?_ GE258.out) | exact HB.out)⟩
        · rw [if_neg c15] at H
          have c15b0 : (a0_0 == 1) = false := beq_eq_false_iff_ne.mpr c15
          have c15b1 : (a0_0 != 1) = true := bne_iff_ne.mpr c15
          by_cases c17 : a0_0 > 2
          · rw [if_pos c17] at H
            have c17b0 : decide (2 < a0_0) = true := decide_eq_true c17
            clear c17
            by_cases c18 : a1 ≥ a0_2
            · rw [if_pos c18] at H
              have c18b0 : decide (a0_2 ≤ a1) = true := decide_eq_true c18
              clear c18
              obtain rfl := Option.some.inj H
              have hcz19_0 : wc.cell? ⟨gb258, 0, none⟩ = some (.int .i64 a0_0) := (blk_cell BK258.out 0).trans rfl
              have hcz19_1 : wc.cell? ⟨gb258, 1, none⟩ = some (.int .i64 a0_1) := (blk_cell BK258.out 1).trans rfl
              have hcz19_2 : wc.cell? ⟨gb258, 2, none⟩ = some (.int .i64 a0_2) := (blk_cell BK258.out 2).trans rfl
              have hfz19_0 := blk_frozen BK258.out 0
              have hfz19_1 := blk_frozen BK258.out 1
              have hfz19_2 := blk_frozen BK258.out 2
              go_wp2
              go_ret
              exact ⟨by first | rfl | (simp [errW_none, errW_some] <;> rfl) | (simp [*, errW_none, errW_some] <;> rfl), by repeat (first | (with_reducible first | exact HB.out | apply below_alloc | apply pw_below_drewN | apply below_drew1 | refine below_set ?_ GE258.out) | exact HB.out)⟩
            · rw [if_neg c18] at H
              have c18b0 : decide (a0_2 ≤ a1) = false := decide_eq_false c18
              clear c18
              obtain rfl := Option.some.inj H
              have hcz20_0 : wc.cell? ⟨gb258, 0, none⟩ = some (.int .i64 a0_0) := (blk_cell BK258.out 0).trans rfl
              have hcz20_1 : wc.cell? ⟨gb258, 1, none⟩ = some (.int .i64 a0_1) := (blk_cell BK258.out 1).trans rfl
              have hcz20_2 : wc.cell? ⟨gb258, 2, none⟩ = some (.int .i64 a0_2) := (blk_cell BK258.out 2).trans rfl
              have hfz20_0 := blk_frozen BK258.out 0
              have hfz20_1 := blk_frozen BK258.out 1
              have hfz20_2 := blk_frozen BK258.out 2
              go_wp2
              go_ret
              exact ⟨by first | rfl | (simp [errW_none, errW_some] <;> rfl) | (simp [*, errW_none, errW_some] <;> rfl), by repeat (first | (with_reducible first | exact HB.out | apply below_alloc | apply pw_below_drewN | apply below_drew1 | refine below_set ?_ GE258.out) | exact HB.out)⟩
          · rw [if_neg c17] at H
            have c17b0 : decide (2 < a0_0) = false := decide_eq_false c17
            clear c17
            obtain rfl := Option.some.inj H
            have hcz21_0 : wc.cell? ⟨gb258, 0, none⟩ = some (.int .i64 a0_0) := (blk_cell BK258.out 0).trans rfl
            have hcz21_1 : wc.cell? ⟨gb258, 1, none⟩ = some (.int .i64 a0_1) := (blk_cell BK258.out 1).trans rfl
            have hcz21_2 : wc.cell? ⟨gb258, 2, none⟩ = some (.int .i64 a0_2) := (blk_cell BK258.out 2).trans rfl
            have hfz21_0 := blk_frozen BK258.out 0
            have hfz21_1 := blk_frozen BK258.out 1
            have hfz21_2 := blk_frozen BK258.out 2
            go_wp2
            go_ret
            exact ⟨by first | rfl | (simp [errW_none, errW_some] <;> rfl) | (simp [*, errW_none, errW_some] <;> rfl), by repeat (first | (with_reducible first | exact HB.out | apply below_alloc | apply pw_below_drewN | apply below_drew1 | refine below_set ?_ GE258.out) | exact HB.out)⟩

end Go.Proofs.YtahjalabhlakaabDoor.GCrown
