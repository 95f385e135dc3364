/- printed for this claim by gprint.py, a program of this session, that drives the kit's printer. -/
import Derived.Test.YtegdoodjajpnhaaGCsax0
import Derived.Test.YtegdoodjajpnhaaGCsax8
namespace Go.Proofs.Ytegdoodjajpnhaa.GCsa
open Go.RowKit Go.Proofs.YtegdoodjajpnhaaW.PrintWords Go.Proofs.YtegdoodjajpnhaaW.PrintLast Go.Proofs.YtegdoodjajpnhaaW.PrintMore
attribute [local go_sem] max2_int min2_int max_two min_two max_three min_three max_four min_four   -- for this text's walks alone
set_option linter.unusedVariables false
set_option linter.unusedSimpArgs false

/-! ### wainwrightref09_Right: function 12 -/
mutual
def wainwrightref09_Right.j0 : Nat → Bool → Int → Int → Int → Int → List Int → Int → Int → List (S48) → Int → Option (Bool)
  | 0, _, _, _, _, _, _, _, _, _, _ => none
  | k + 1, x29, x287000, x287001, x287002, x287003, x287004, x287005, x287006, x287007, x287008 => if x29 = true then (some false) else (if x287000 = 1 then (wainwrightref09_Right.l0 k 0 x287000 x287001 x287002 x287003 x287004 x287005 x287006 x287007 x287008) else (if x287000 = 2 then (if x287003 ≤ 15360 then (if (x287004.length : Int) = 0 then (if x287005 = 0 then (if x287006 = 0 then (if (x287007.length : Int) ≤ 3 then ((wainwrightref04_Right.f x287007).bind fun t292 => (if t292 = true then ((wainwrightref09_small.f x287008).bind fun t293 => (if t293 = true then (if x287008 = 0 then (some true) else (none)) else (none))) else (none))) else (none)) else (none)) else (none)) else (none)) else (none)) else (some false)))
def wainwrightref09_Right.l0 : Nat → Int → Int → Int → Int → Int → List Int → Int → Int → List (S48) → Int → Option (Bool)
  | 0, _, _, _, _, _, _, _, _, _, _ => none
  | k + 1, x3, x287000, x287001, x287002, x287003, x287004, x287005, x287006, x287007, x287008 => if x3 < (x287004.length : Int) then (if 0 ≤ x3 then ((wainwrightref09_small.f (rd x287004 x3)).bind fun t289 => (if t289 = true then (wainwrightref09_Right.l0 k (wrap64 (x3 + 1)) x287000 x287001 x287002 x287003 x287004 x287005 x287006 x287007 x287008) else (none))) else (none)) else (if x287003 ≤ 9728 then (if (x287004.length : Int) = 4 then ((wainwrightref09_small.f x287005).bind fun t290 => (if t290 = true then ((wainwrightref09_small.f x287006).bind fun t291 => (if t291 = true then (if (x287007.length : Int) = 0 then (some (x287008 == 0)) else (none)) else (none))) else (none))) else (none)) else (none))
end
def wainwrightref09_Right.f (k : Nat) (a0_0 : Int) (a0_1 : Int) (a0_2 : Int) (a0_3 : Int) (l0_4 : List Int) (a0_5 : Int) (a0_6 : Int) (l0_7 : List (S48)) (a0_8 : Int) : Option (Bool) := (wainwrightref09_Same.f k a0_0 a0_1 a0_2 a0_3 l0_4 a0_5 a0_6 l0_7 a0_8 0 0 0 0 ([] : List Int) 0 0 ([] : List (S48)) 0).bind fun t287 => (if t287 = true then (none) else (if a0_1 = 1 then (if a0_2 < 1 then (none) else (if a0_2 > 200 then (none) else (wainwrightref09_Right.j0 k (decide (a0_3 < 0)) a0_0 a0_1 a0_2 a0_3 l0_4 a0_5 a0_6 l0_7 a0_8))) else (if a0_1 = 2 then (if a0_2 < 1 then (none) else (if a0_2 > 200 then (none) else (wainwrightref09_Right.j0 k (decide (a0_3 < 0)) a0_0 a0_1 a0_2 a0_3 l0_4 a0_5 a0_6 l0_7 a0_8))) else (wainwrightref09_Right.j0 k true a0_0 a0_1 a0_2 a0_3 l0_4 a0_5 a0_6 l0_7 a0_8))))
theorem wainwrightref09_Right.mono_l : ∀ k, (∀ y0 y1 y2 y3 y4 y5 y6 y7 y8 y9, LeO (wainwrightref09_Right.j0 k y0 y1 y2 y3 y4 y5 y6 y7 y8 y9) (wainwrightref09_Right.j0 (k + 1) y0 y1 y2 y3 y4 y5 y6 y7 y8 y9)) ∧ (∀ y0 y1 y2 y3 y4 y5 y6 y7 y8 y9, LeO (wainwrightref09_Right.l0 k y0 y1 y2 y3 y4 y5 y6 y7 y8 y9) (wainwrightref09_Right.l0 (k + 1) y0 y1 y2 y3 y4 y5 y6 y7 y8 y9))
  | 0 => ⟨fun _ _ _ _ _ _ _ _ _ _ r h => by simp [wainwrightref09_Right.j0] at h, fun _ _ _ _ _ _ _ _ _ _ r h => by simp [wainwrightref09_Right.l0] at h⟩
  | k + 1 => by
    obtain ⟨ih0, ih1⟩ := wainwrightref09_Right.mono_l k
    refine ⟨?_, ?_⟩
    · intro y0 y1 y2 y3 y4 y5 y6 y7 y8 y9
      unfold wainwrightref09_Right.j0
      repeat' first
      | (with_reducible exact ih0 _ _ _ _ _ _ _ _ _ _)
      | (with_reducible exact ih1 _ _ _ _ _ _ _ _ _ _)
      | (with_reducible exact wainwrightref09_Same.mono _ _ _ _ _ _ _ _ _ _ _ _ _ _ _ _ _ _ _)
      | (with_reducible exact LeO.refl _)
      | (with_reducible exact LeO.none _)
      | (with_reducible refine LeO.ite ?_ ?_)
      | (with_reducible refine LeO.bind ?_ (fun _ => ?_))
      | exact ih0 _ _ _ _ _ _ _ _ _ _
      | exact ih1 _ _ _ _ _ _ _ _ _ _
      | exact wainwrightref09_Same.mono _ _ _ _ _ _ _ _ _ _ _ _ _ _ _ _ _ _ _
      | exact LeO.none _
      | refine LeO.ite ?_ ?_
      | refine LeO.bind ?_ (fun _ => ?_)
    · intro y0 y1 y2 y3 y4 y5 y6 y7 y8 y9
      unfold wainwrightref09_Right.l0
      repeat' first
      | (with_reducible exact ih0 _ _ _ _ _ _ _ _ _ _)
      | (with_reducible exact ih1 _ _ _ _ _ _ _ _ _ _)
      | (with_reducible exact wainwrightref09_Same.mono _ _ _ _ _ _ _ _ _ _ _ _ _ _ _ _ _ _ _)
      | (with_reducible exact LeO.refl _)
      | (with_reducible exact LeO.none _)
      | (with_reducible refine LeO.ite ?_ ?_)
      | (with_reducible refine LeO.bind ?_ (fun _ => ?_))
      | exact ih0 _ _ _ _ _ _ _ _ _ _
      | exact ih1 _ _ _ _ _ _ _ _ _ _
      | exact wainwrightref09_Same.mono _ _ _ _ _ _ _ _ _ _ _ _ _ _ _ _ _ _ _
      | exact LeO.none _
      | refine LeO.ite ?_ ?_
      | refine LeO.bind ?_ (fun _ => ?_)
theorem wainwrightref09_Right.mono : ∀ a0 a1 a2 a3 a4 a5 a6 a7 a8 k, LeO (wainwrightref09_Right.f k a0 a1 a2 a3 a4 a5 a6 a7 a8) (wainwrightref09_Right.f (k + 1) a0 a1 a2 a3 a4 a5 a6 a7 a8) := by
  intro a0 a1 a2 a3 a4 a5 a6 a7 a8 k
  obtain ⟨ih0, ih1⟩ := wainwrightref09_Right.mono_l k
  unfold wainwrightref09_Right.f
  repeat' first
      | (with_reducible exact ih0 _ _ _ _ _ _ _ _ _ _)
      | (with_reducible exact ih1 _ _ _ _ _ _ _ _ _ _)
      | (with_reducible exact wainwrightref09_Same.mono _ _ _ _ _ _ _ _ _ _ _ _ _ _ _ _ _ _ _)
      | (with_reducible exact LeO.refl _)
      | (with_reducible exact LeO.none _)
      | (with_reducible refine LeO.ite ?_ ?_)
      | (with_reducible refine LeO.bind ?_ (fun _ => ?_))
      | exact ih0 _ _ _ _ _ _ _ _ _ _
      | exact ih1 _ _ _ _ _ _ _ _ _ _
      | exact wainwrightref09_Same.mono _ _ _ _ _ _ _ _ _ _ _ _ _ _ _ _ _ _ _
      | exact LeO.none _
      | refine LeO.ite ?_ ?_
      | refine LeO.bind ?_ (fun _ => ?_)
set_option maxHeartbeats 8000000 in
set_option maxRecDepth 100000 in
theorem wainwrightref09_Right.calls (k : Nat) (a0_0 : Int) (a0_1 : Int) (a0_2 : Int) (a0_3 : Int) (A0_4 : Option Addr) (c0_4 : Nat) (l0_4 : List Int) (a0_5 : Int) (a0_6 : Int) (A0_7 : Option Addr) (c0_7 : Nat) (l0_7 : List (S48)) (a0_8 : Int) (r : Bool) (w : World) (hr0_4 : Kd.C (Kd.int .i64) w A0_4 l0_4.length l0_4) (hc0_4 : l0_4.length ≤ c0_4) (hr0_7 : Kd.C k48 w A0_7 l0_7.length l0_7) (hc0_7 : l0_7.length ≤ c0_7) (h : wainwrightref09_Right.f k a0_0 a0_1 a0_2 a0_3 l0_4 a0_5 a0_6 l0_7 a0_8 = some r) :
    Calls Try.prog 12 #[.agg #[.int .i64 a0_0, .int .i64 a0_1, .int .i64 a0_2, .int .i64 a0_3, .slice A0_4 l0_4.length c0_4, .int .i64 a0_5, .int .i64 a0_6, .slice A0_7 l0_7.length c0_7, .int .i64 a0_8]] w fun e w' => e = .returned (.bool r) ∧ Below w.heap.size w w' := by
  have hu25 := Try.underlying25
  have HR0_4 := Aside0.mk hr0_4
  have HC0_4 := Aside0.mk hc0_4
  clear hr0_4 hc0_4
  have HR0_7 := Aside0.mk hr0_7
  have HC0_7 := Aside0.mk hc0_7
  clear hr0_7 hc0_7
  have HB := Aside0.mk (Below.refl w.heap.size w)
  have H : ((wainwrightref09_Same.f k a0_0 a0_1 a0_2 a0_3 l0_4 a0_5 a0_6 l0_7 a0_8 0 0 0 0 ([] : List Int) 0 0 ([] : List (S48)) 0).bind fun t287 => (if t287 = true then (none) else (if a0_1 = 1 then (if a0_2 < 1 then (none) else (if a0_2 > 200 then (none) else (wainwrightref09_Right.j0 k (decide (a0_3 < 0)) a0_0 a0_1 a0_2 a0_3 l0_4 a0_5 a0_6 l0_7 a0_8))) else (if a0_1 = 2 then (if a0_2 < 1 then (none) else (if a0_2 > 200 then (none) else (wainwrightref09_Right.j0 k (decide (a0_3 < 0)) a0_0 a0_1 a0_2 a0_3 l0_4 a0_5 a0_6 l0_7 a0_8))) else (wainwrightref09_Right.j0 k true a0_0 a0_1 a0_2 a0_3 l0_4 a0_5 a0_6 l0_7 a0_8))))) = some r := h
  clear h
  replace H := Option.bind_eq_some_iff.mp H
  obtain ⟨t287, A20, H⟩ := H
  replace H : (if t287 = true then (none) else (if a0_1 = 1 then (if a0_2 < 1 then (none) else (if a0_2 > 200 then (none) else (wainwrightref09_Right.j0 k (decide (a0_3 < 0)) a0_0 a0_1 a0_2 a0_3 l0_4 a0_5 a0_6 l0_7 a0_8))) else (if a0_1 = 2 then (if a0_2 < 1 then (none) else (if a0_2 > 200 then (none) else (wainwrightref09_Right.j0 k (decide (a0_3 < 0)) a0_0 a0_1 a0_2 a0_3 l0_4 a0_5 a0_6 l0_7 a0_8))) else (wainwrightref09_Right.j0 k true a0_0 a0_1 a0_2 a0_3 l0_4 a0_5 a0_6 l0_7 a0_8)))) = some r := H
  have A2 := Aside0.mk A20
  clear A20
  by_cases c3 : t287 = true
  · subst c3
    have H1 : (none) = some r := by rw [if_pos rfl] at H; exact H
    clear H
    have H := H1
    clear H1
    exact absurd H (by simp)
  · replace c3 := Bool.eq_false_iff.mpr c3
    subst c3
    have H1 : (if a0_1 = 1 then (if a0_2 < 1 then (none) else (if a0_2 > 200 then (none) else (wainwrightref09_Right.j0 k (decide (a0_3 < 0)) a0_0 a0_1 a0_2 a0_3 l0_4 a0_5 a0_6 l0_7 a0_8))) else (if a0_1 = 2 then (if a0_2 < 1 then (none) else (if a0_2 > 200 then (none) else (wainwrightref09_Right.j0 k (decide (a0_3 < 0)) a0_0 a0_1 a0_2 a0_3 l0_4 a0_5 a0_6 l0_7 a0_8))) else (wainwrightref09_Right.j0 k true a0_0 a0_1 a0_2 a0_3 l0_4 a0_5 a0_6 l0_7 a0_8))) = some r := by rw [if_neg (show ¬ (false = true) by decide)] at H; exact H
    clear H
    have H := H1
    clear H1
    have HC4 := Aside0.mk H
    clear H
    go_enter Try.func12, Try.ntmps12
    go_upto_region 3 with (first | ((with_reducible refine gate_dst (N := 1) rfl ?_); (try (refine gate_guard (by rfl) ?_; dsimp only)); refine box_event ?hg (N := 1) ?hd (cs := #[.int .i64 a0_0, .int .i64 a0_1, .int .i64 a0_2, .int .i64 a0_3, .slice A0_4 l0_4.length c0_4, .int .i64 a0_5, .int .i64 a0_6, .slice A0_7 l0_7.length c0_7, .int .i64 a0_8]) (t := 25) ?hr ?_; (case hd => rfl); (case hg => rfl); (case hr => first | (go_simp; done) | (go_simp; rfl)); intro gb286 hg w5 hbox hb; have n0_ := Aside0.mk (below_step (by repeat (first | (with_reducible first | exact HB.out | apply below_alloc | apply pw_below_drewN | apply below_drew1) | exact HB.out)) hb); have n1_ := Aside0.mk (hbox); have n2_ := Aside0.mk ((by rw [hg]; exact (below_size (by repeat (first | (with_reducible first | exact HB.out | apply below_alloc | apply pw_below_drewN | apply below_drew1) | exact HB.out))) : w.heap.size ≤ gb286)); have n3_ := Aside0.mk ((by rw [hg]; exact (below_size (by repeat (first | (with_reducible first | exact HB.out | apply below_alloc | apply pw_below_drewN | apply below_drew1) | exact HB.out))) : w.heap.size ≤ gb286)); clear HB; have HB := n0_; have BK286 := n1_; have GW286 := n2_; have GE286 := n3_; clear n0_ n1_ n2_ n3_; clear hb hbox hg; obtain ⟨hcz6_0, hcz6_1, hcz6_2, hcz6_3, hcz6_4, hcz6_5, hcz6_6, hcz6_7, hcz6_8⟩ := cells9 BK286.out; obtain ⟨hfz6_0, hfz6_1, hfz6_2, hfz6_3, hfz6_4, hfz6_5, hfz6_6, hfz6_7, hfz6_8⟩ := frozen9 BK286.out) | ((with_reducible refine gate_callee (f := 15) rfl ?_); refine goesL_ (some 6) rfl rfl Try.func15 (by kernel_rfl) rfl #[.agg #[.int .i64 a0_0, .int .i64 a0_1, .int .i64 a0_2, .int .i64 a0_3, .slice A0_4 l0_4.length c0_4, .int .i64 a0_5, .int .i64 a0_6, .slice A0_7 l0_7.length c0_7, .int .i64 a0_8], .agg #[.int .i64 0, .int .i64 0, .int .i64 0, .int .i64 0, .slice none 0 0, .int .i64 0, .int .i64 0, .slice none 0 0, .int .i64 0]] rfl (by (try simp only [List.map_toArray, List.map_cons, List.map_nil]); first | done | rfl | (simp only [List.length_drop, List.length_take]; rfl)) ?_; (refine (wainwrightref09_Same.calls k a0_0 a0_1 a0_2 a0_3 _ _ l0_4 a0_5 a0_6 _ _ l0_7 a0_8 0 0 0 0 _ _ ([] : List Int) 0 0 _ _ ([] : List (S48)) 0 false _ ?side1 ?side2 ?side3 ?side4 ?side5 ?side6 ?side7 ?side8 A2.out).mono ?_); (case side1 => repeat (first | exact (Kd.C_below HR0_4.out HB.out) | (with_reducible refine Kd.C_alloc ?_ _) | (with_reducible refine Kd.C_drewN ?_ _) | (with_reducible refine Kd.C_drew ?_))); (case side2 => exact HC0_4.out); (case side3 => repeat (first | exact (Kd.C_below HR0_7.out HB.out) | (with_reducible refine Kd.C_alloc ?_ _) | (with_reducible refine Kd.C_drewN ?_ _) | (with_reducible refine Kd.C_drew ?_))); (case side4 => exact HC0_7.out); (case side5 => exact Kd.C_nil _ _); (case side6 => exact Nat.le_refl _); (case side7 => exact Kd.C_nil _ _); (case side8 => exact Nat.le_refl _); rintro e w7 ⟨rfl, hb⟩; refine ⟨_, rfl, ?_⟩; have n0_ := Aside0.mk (blk_below (g := gb286) (o := .cells #[.int .i64 a0_0, .int .i64 a0_1, .int .i64 a0_2, .int .i64 a0_3, .slice A0_4 l0_4.length c0_4, .int .i64 a0_5, .int .i64 a0_6, .slice A0_7 l0_7.length c0_7, .int .i64 a0_8] 25 (0, 0)) (by (with_reducible repeat (first | refine blk_drewN ?_ _ | refine blk_drew ?_ | refine blk_alloc ?_ _)); exact BK286.out) hb); have n1_ := Aside0.mk (below_step (by repeat (first | (with_reducible first | exact HB.out | apply below_alloc | apply pw_below_drewN | apply below_drew1 | refine below_set ?_ GE286.out) | exact HB.out)) hb); clear BK286; clear HB; have BK286 := n0_; have HB := n1_; clear n0_ n1_; (try clear hb); (try clear hb2); (try clear hk); (try clear hi)))
    (try simp only [Act.put, List.setIfInBounds_toArray, List.set_cons_zero, List.set_cons_succ])
    go_cut [29] (fun v29 wc => ∃ (kq : Nat) (x29_3 : Bool), v29 = .bool x29_3 ∧ Aside0 (wainwrightref09_Right.j0 kq x29_3 a0_0 a0_1 a0_2 a0_3 l0_4 a0_5 a0_6 l0_7 a0_8 = some r) ∧ Aside0 (kq ≤ k) ∧ Aside0 (wc.heap[gb286]? = some (.cells #[.int .i64 a0_0, .int .i64 a0_1, .int .i64 a0_2, .int .i64 a0_3, (.slice A0_4 l0_4.length c0_4), .int .i64 a0_5, .int .i64 a0_6, (.slice A0_7 l0_7.length c0_7), .int .i64 a0_8] 25 (0, 0))) ∧ Aside0 (Below w.heap.size w wc))
    case first =>
      have H := HC4.out
      clear HC4
      by_cases c8 : a0_1 = 1
      · rw [if_pos c8] at H
        have c8b0 : (a0_1 == 1) = true := beq_iff_eq.mpr c8
        have c8b1 : (a0_1 != 1) = false := bne_eq_false_iff_eq.mpr c8
        clear c8
        (first | rw [c8b0] | (simp only [i64_w, i32_w]; rw [c8b0]) | skip)
        by_cases c9 : a0_2 < 1
        · rw [if_pos c9] at H
          exact absurd H (by simp)
        · rw [if_neg c9] at H
          have c9b0 : decide (a0_2 < 1) = false := decide_eq_false c9
          clear c9
          by_cases c10 : a0_2 > 200
          · rw [if_pos c10] at H
            exact absurd H (by simp)
          · rw [if_neg c10] at H
            have c10b0 : decide (200 < a0_2) = false := decide_eq_false c10
            clear c10
            have H' := Aside0.mk H
            clear H
            have hcz11_0 : w7.cell? ⟨gb286, 0, none⟩ = some (.int .i64 a0_0) := (blk_cell BK286.out 0).trans rfl
            have hcz11_1 : w7.cell? ⟨gb286, 1, none⟩ = some (.int .i64 a0_1) := (blk_cell BK286.out 1).trans rfl
            have hcz11_2 : w7.cell? ⟨gb286, 2, none⟩ = some (.int .i64 a0_2) := (blk_cell BK286.out 2).trans rfl
            have hcz11_3 : w7.cell? ⟨gb286, 3, none⟩ = some (.int .i64 a0_3) := (blk_cell BK286.out 3).trans rfl
            have hcz11_4 : w7.cell? ⟨gb286, 4, none⟩ = some (.slice A0_4 l0_4.length c0_4) := (blk_cell BK286.out 4).trans rfl
            have hcz11_5 : w7.cell? ⟨gb286, 5, none⟩ = some (.int .i64 a0_5) := (blk_cell BK286.out 5).trans rfl
            have hcz11_6 : w7.cell? ⟨gb286, 6, none⟩ = some (.int .i64 a0_6) := (blk_cell BK286.out 6).trans rfl
            have hcz11_7 : w7.cell? ⟨gb286, 7, none⟩ = some (.slice A0_7 l0_7.length c0_7) := (blk_cell BK286.out 7).trans rfl
            have hcz11_8 : w7.cell? ⟨gb286, 8, none⟩ = some (.int .i64 a0_8) := (blk_cell BK286.out 8).trans rfl
            have hfz11_0 := blk_frozen BK286.out 0
            have hfz11_1 := blk_frozen BK286.out 1
            have hfz11_2 := blk_frozen BK286.out 2
            have hfz11_3 := blk_frozen BK286.out 3
            have hfz11_4 := blk_frozen BK286.out 4
            have hfz11_5 := blk_frozen BK286.out 5
            have hfz11_6 := blk_frozen BK286.out 6
            have hfz11_7 := blk_frozen BK286.out 7
            have hfz11_8 := blk_frozen BK286.out 8
            go_wp2
            go_meet
            case rel => exact ⟨_, (decide (a0_3 < 0)), (by first | rfl | (simp; done) | (simp [*]; done) | exact gw_ne _ | exact gw_eq _), H', ⟨by first | omega | exact Nat.le_refl _⟩, ⟨by (with_reducible repeat (first | refine blk_drewN ?_ _ | refine blk_drew ?_ | refine blk_alloc ?_ _)); exact BK286.out⟩, ⟨by repeat (first | (with_reducible first | exact HB.out | apply below_alloc | apply pw_below_drewN | apply below_drew1 | refine below_set ?_ GE286.out) | exact HB.out)⟩⟩
      · rw [if_neg c8] at H
        have c8b0 : (a0_1 == 1) = false := beq_eq_false_iff_ne.mpr c8
        have c8b1 : (a0_1 != 1) = true := bne_iff_ne.mpr c8
        (first | rw [c8b0] | (simp only [i64_w, i32_w]; rw [c8b0]) | skip)
        by_cases c12 : a0_1 = 2
        · rw [if_pos c12] at H
          have c12b0 : (a0_1 == 2) = true := beq_iff_eq.mpr c12
          have c12b1 : (a0_1 != 2) = false := bne_eq_false_iff_eq.mpr c12
          clear c12
          by_cases c13 : a0_2 < 1
          · rw [if_pos c13] at H
            exact absurd H (by simp)
          · rw [if_neg c13] at H
            have c13b0 : decide (a0_2 < 1) = false := decide_eq_false c13
            clear c13
            by_cases c14 : a0_2 > 200
            · rw [if_pos c14] at H
              exact absurd H (by simp)
            · rw [if_neg c14] at H
              have c14b0 : decide (200 < a0_2) = false := decide_eq_false c14
              clear c14
              have H' := Aside0.mk H
              clear H
              have hcz15_0 : w7.cell? ⟨gb286, 0, none⟩ = some (.int .i64 a0_0) := (blk_cell BK286.out 0).trans rfl
              have hcz15_1 : w7.cell? ⟨gb286, 1, none⟩ = some (.int .i64 a0_1) := (blk_cell BK286.out 1).trans rfl
              have hcz15_2 : w7.cell? ⟨gb286, 2, none⟩ = some (.int .i64 a0_2) := (blk_cell BK286.out 2).trans rfl
              have hcz15_3 : w7.cell? ⟨gb286, 3, none⟩ = some (.int .i64 a0_3) := (blk_cell BK286.out 3).trans rfl
              have hcz15_4 : w7.cell? ⟨gb286, 4, none⟩ = some (.slice A0_4 l0_4.length c0_4) := (blk_cell BK286.out 4).trans rfl
              have hcz15_5 : w7.cell? ⟨gb286, 5, none⟩ = some (.int .i64 a0_5) := (blk_cell BK286.out 5).trans rfl
              have hcz15_6 : w7.cell? ⟨gb286, 6, none⟩ = some (.int .i64 a0_6) := (blk_cell BK286.out 6).trans rfl
              have hcz15_7 : w7.cell? ⟨gb286, 7, none⟩ = some (.slice A0_7 l0_7.length c0_7) := (blk_cell BK286.out 7).trans rfl
              have hcz15_8 : w7.cell? ⟨gb286, 8, none⟩ = some (.int .i64 a0_8) := (blk_cell BK286.out 8).trans rfl
              have hfz15_0 := blk_frozen BK286.out 0
              have hfz15_1 := blk_frozen BK286.out 1
              have hfz15_2 := blk_frozen BK286.out 2
              have hfz15_3 := blk_frozen BK286.out 3
              have hfz15_4 := blk_frozen BK286.out 4
              have hfz15_5 := blk_frozen BK286.out 5
              have hfz15_6 := blk_frozen BK286.out 6
              have hfz15_7 := blk_frozen BK286.out 7
              have hfz15_8 := blk_frozen BK286.out 8
              go_wp2
              go_meet
              case rel => exact ⟨_, (decide (a0_3 < 0)), (by first | rfl | (simp; done) | (simp [*]; done) | exact gw_ne _ | exact gw_eq _), H', ⟨by first | omega | exact Nat.le_refl _⟩, ⟨by (with_reducible repeat (first | refine blk_drewN ?_ _ | refine blk_drew ?_ | refine blk_alloc ?_ _)); exact BK286.out⟩, ⟨by repeat (first | (with_reducible first | exact HB.out | apply below_alloc | apply pw_below_drewN | apply below_drew1 | refine below_set ?_ GE286.out) | exact HB.out)⟩⟩
        · rw [if_neg c12] at H
          have c12b0 : (a0_1 == 2) = false := beq_eq_false_iff_ne.mpr c12
          have c12b1 : (a0_1 != 2) = true := bne_iff_ne.mpr c12
          have H' := Aside0.mk H
          clear H
          have hcz16_0 : w7.cell? ⟨gb286, 0, none⟩ = some (.int .i64 a0_0) := (blk_cell BK286.out 0).trans rfl
          have hcz16_1 : w7.cell? ⟨gb286, 1, none⟩ = some (.int .i64 a0_1) := (blk_cell BK286.out 1).trans rfl
          have hcz16_2 : w7.cell? ⟨gb286, 2, none⟩ = some (.int .i64 a0_2) := (blk_cell BK286.out 2).trans rfl
          have hcz16_3 : w7.cell? ⟨gb286, 3, none⟩ = some (.int .i64 a0_3) := (blk_cell BK286.out 3).trans rfl
          have hcz16_4 : w7.cell? ⟨gb286, 4, none⟩ = some (.slice A0_4 l0_4.length c0_4) := (blk_cell BK286.out 4).trans rfl
          have hcz16_5 : w7.cell? ⟨gb286, 5, none⟩ = some (.int .i64 a0_5) := (blk_cell BK286.out 5).trans rfl
          have hcz16_6 : w7.cell? ⟨gb286, 6, none⟩ = some (.int .i64 a0_6) := (blk_cell BK286.out 6).trans rfl
          have hcz16_7 : w7.cell? ⟨gb286, 7, none⟩ = some (.slice A0_7 l0_7.length c0_7) := (blk_cell BK286.out 7).trans rfl
          have hcz16_8 : w7.cell? ⟨gb286, 8, none⟩ = some (.int .i64 a0_8) := (blk_cell BK286.out 8).trans rfl
          have hfz16_0 := blk_frozen BK286.out 0
          have hfz16_1 := blk_frozen BK286.out 1
          have hfz16_2 := blk_frozen BK286.out 2
          have hfz16_3 := blk_frozen BK286.out 3
          have hfz16_4 := blk_frozen BK286.out 4
          have hfz16_5 := blk_frozen BK286.out 5
          have hfz16_6 := blk_frozen BK286.out 6
          have hfz16_7 := blk_frozen BK286.out 7
          have hfz16_8 := blk_frozen BK286.out 8
          go_wp2
          go_meet
          case rel => exact ⟨_, (true), (by first | rfl | (simp; done) | (simp [*]; done) | exact gw_ne _ | exact gw_eq _), H', ⟨by first | omega | exact Nat.le_refl _⟩, ⟨by (with_reducible repeat (first | refine blk_drewN ?_ _ | refine blk_drew ?_ | refine blk_alloc ?_ _)); exact BK286.out⟩, ⟨by repeat (first | (with_reducible first | exact HB.out | apply below_alloc | apply pw_below_drewN | apply below_drew1 | refine below_set ?_ GE286.out) | exact HB.out)⟩⟩
    case rest =>
      clear HC4
      try clear c1
      try clear p2
      try clear c3
      try clear c8
      try clear c8b0
      try clear c8b1
      try clear c9
      try clear c9b0
      try clear c10
      try clear c10b0
      try clear c12
      try clear c12b0
      try clear c12b1
      try clear c13
      try clear c13b0
      try clear c14
      try clear c14b0
      try clear c15
      try clear hcz11_0
      try clear hcz11_1
      try clear hcz11_2
      try clear hcz11_3
      try clear hcz11_4
      try clear hcz11_5
      try clear hcz11_6
      try clear hcz11_7
      try clear hcz11_8
      try clear hcz15_0
      try clear hcz15_1
      try clear hcz15_2
      try clear hcz15_3
      try clear hcz15_4
      try clear hcz15_5
      try clear hcz15_6
      try clear hcz15_7
      try clear hcz15_8
      try clear hcz16_0
      try clear hcz16_1
      try clear hcz16_2
      try clear hcz16_3
      try clear hcz16_4
      try clear hcz16_5
      try clear hcz16_6
      try clear hcz16_7
      try clear hcz16_8
      try clear hcz6_0
      try clear hcz6_1
      try clear hcz6_2
      try clear hcz6_3
      try clear hcz6_4
      try clear hcz6_5
      try clear hcz6_6
      try clear hcz6_7
      try clear hcz6_8
      try clear hfz11_0
      try clear hfz11_1
      try clear hfz11_2
      try clear hfz11_3
      try clear hfz11_4
      try clear hfz11_5
      try clear hfz11_6
      try clear hfz11_7
      try clear hfz11_8
      try clear hfz15_0
      try clear hfz15_1
      try clear hfz15_2
      try clear hfz15_3
      try clear hfz15_4
      try clear hfz15_5
      try clear hfz15_6
      try clear hfz15_7
      try clear hfz15_8
      try clear hfz16_0
      try clear hfz16_1
      try clear hfz16_2
      try clear hfz16_3
      try clear hfz16_4
      try clear hfz16_5
      try clear hfz16_6
      try clear hfz16_7
      try clear hfz16_8
      try clear hfz6_0
      try clear hfz6_1
      try clear hfz6_2
      try clear hfz6_3
      try clear hfz6_4
      try clear hfz6_5
      try clear hfz6_6
      try clear hfz6_7
      try clear hfz6_8
      obtain ⟨kq, x29_3, rfl, HA, HJ3, BK286, HB⟩ := hcut
      cases kq with
      | zero => exact absurd HA.out (by simp [wainwrightref09_Right.j0])
      | succ kj3 =>
        have H := HA.out
        clear HA
        simp only [wainwrightref09_Right.j0] at H
        by_cases c17 : x29_3 = true
        · subst c17
          have H1 : (some false) = some r := by rw [if_pos rfl] at H; exact H
          clear H
          have H := H1
          clear H1
          obtain rfl := Option.some.inj H
          go_wp2
          go_ret
          exact ⟨by first | rfl | (simp [errW_none, errW_some] <;> rfl) | (simp [*, errW_none, errW_some] <;> rfl), by repeat (first | (with_reducible first | exact HB.out | apply below_alloc | apply pw_below_drewN | apply below_drew1 | refine below_set ?_ GE286.out) | exact HB.out)⟩
        · replace c17 := Bool.eq_false_iff.mpr c17
          subst c17
          have H1 : (if a0_0 = 1 then (wainwrightref09_Right.l0 kj3 0 a0_0 a0_1 a0_2 a0_3 l0_4 a0_5 a0_6 l0_7 a0_8) else (if a0_0 = 2 then (if a0_3 ≤ 15360 then (if (l0_4.length : Int) = 0 then (if a0_5 = 0 then (if a0_6 = 0 then (if (l0_7.length : Int) ≤ 3 then ((wainwrightref04_Right.f l0_7).bind fun t292 => (if t292 = true then ((wainwrightref09_small.f a0_8).bind fun t293 => (if t293 = true then (if a0_8 = 0 then (some true) else (none)) else (none))) else (none))) else (none)) else (none)) else (none)) else (none)) else (none)) else (some false))) = some r := by rw [if_neg (show ¬ (false = true) by decide)] at H; exact H
          clear H
          have H := H1
          clear H1
          by_cases c18 : a0_0 = 1
          · rw [if_pos c18] at H
            have c18b0 : (a0_0 == 1) = true := beq_iff_eq.mpr c18
            have c18b1 : (a0_0 != 1) = false := bne_eq_false_iff_eq.mpr c18
            clear c18
            have H' := Aside0.mk H
            clear H
            have hcz19_0 : wc.cell? ⟨gb286, 0, none⟩ = some (.int .i64 a0_0) := (blk_cell BK286.out 0).trans rfl
            have hcz19_1 : wc.cell? ⟨gb286, 1, none⟩ = some (.int .i64 a0_1) := (blk_cell BK286.out 1).trans rfl
            have hcz19_2 : wc.cell? ⟨gb286, 2, none⟩ = some (.int .i64 a0_2) := (blk_cell BK286.out 2).trans rfl
            have hcz19_3 : wc.cell? ⟨gb286, 3, none⟩ = some (.int .i64 a0_3) := (blk_cell BK286.out 3).trans rfl
            have hcz19_4 : wc.cell? ⟨gb286, 4, none⟩ = some (.slice A0_4 l0_4.length c0_4) := (blk_cell BK286.out 4).trans rfl
            have hcz19_5 : wc.cell? ⟨gb286, 5, none⟩ = some (.int .i64 a0_5) := (blk_cell BK286.out 5).trans rfl
            have hcz19_6 : wc.cell? ⟨gb286, 6, none⟩ = some (.int .i64 a0_6) := (blk_cell BK286.out 6).trans rfl
            have hcz19_7 : wc.cell? ⟨gb286, 7, none⟩ = some (.slice A0_7 l0_7.length c0_7) := (blk_cell BK286.out 7).trans rfl
            have hcz19_8 : wc.cell? ⟨gb286, 8, none⟩ = some (.int .i64 a0_8) := (blk_cell BK286.out 8).trans rfl
            have hfz19_0 := blk_frozen BK286.out 0
            have hfz19_1 := blk_frozen BK286.out 1
            have hfz19_2 := blk_frozen BK286.out 2
            have hfz19_3 := blk_frozen BK286.out 3
            have hfz19_4 := blk_frozen BK286.out 4
            have hfz19_5 := blk_frozen BK286.out 5
            have hfz19_6 := blk_frozen BK286.out 6
            have hfz19_7 := blk_frozen BK286.out 7
            have hfz19_8 := blk_frozen BK286.out 8
            go_wp2
            go_loopg [3] kj3 (fun kq v3 w' => ∃ (x3_2 : Int), v3 = .int .i64 x3_2 ∧ Aside0 (wainwrightref09_Right.l0 kq x3_2 a0_0 a0_1 a0_2 a0_3 l0_4 a0_5 a0_6 l0_7 a0_8 = some r) ∧ Aside0 (kq ≤ kj3) ∧ Aside0 (w'.heap[gb286]? = some (.cells #[.int .i64 a0_0, .int .i64 a0_1, .int .i64 a0_2, .int .i64 a0_3, (.slice A0_4 l0_4.length c0_4), .int .i64 a0_5, .int .i64 a0_6, (.slice A0_7 l0_7.length c0_7), .int .i64 a0_8] 25 (0, 0))) ∧ Aside0 (Below w.heap.size w w'))
            case atStart => exact ⟨(0), (by first | rfl | (simp; done) | (simp [*]; done) | exact gw_ne _ | exact gw_eq _), H', ⟨Nat.le_refl _⟩, ⟨by (with_reducible repeat (first | refine blk_drewN ?_ _ | refine blk_drew ?_ | refine blk_alloc ?_ _)); exact BK286.out⟩, ⟨by repeat (first | (with_reducible first | exact HB.out | apply below_alloc | apply pw_below_drewN | apply below_drew1 | refine below_set ?_ GE286.out) | exact HB.out)⟩⟩
            case round =>
              clear H'
              try clear c1
              try clear p2
              try clear c3
              try clear c8
              try clear c8b0
              try clear c8b1
              try clear c9
              try clear c9b0
              try clear c10
              try clear c10b0
              try clear c12
              try clear c12b0
              try clear c12b1
              try clear c13
              try clear c13b0
              try clear c14
              try clear c14b0
              try clear c15
              try clear c17
              try clear c18
              try clear c18b0
              try clear c18b1
              try clear hcz11_0
              try clear hcz11_1
              try clear hcz11_2
              try clear hcz11_3
              try clear hcz11_4
              try clear hcz11_5
              try clear hcz11_6
              try clear hcz11_7
              try clear hcz11_8
              try clear hcz15_0
              try clear hcz15_1
              try clear hcz15_2
              try clear hcz15_3
              try clear hcz15_4
              try clear hcz15_5
              try clear hcz15_6
              try clear hcz15_7
              try clear hcz15_8
              try clear hcz16_0
              try clear hcz16_1
              try clear hcz16_2
              try clear hcz16_3
              try clear hcz16_4
              try clear hcz16_5
              try clear hcz16_6
              try clear hcz16_7
              try clear hcz16_8
              try clear hcz19_0
              try clear hcz19_1
              try clear hcz19_2
              try clear hcz19_3
              try clear hcz19_4
              try clear hcz19_5
              try clear hcz19_6
              try clear hcz19_7
              try clear hcz19_8
              try clear hcz6_0
              try clear hcz6_1
              try clear hcz6_2
              try clear hcz6_3
              try clear hcz6_4
              try clear hcz6_5
              try clear hcz6_6
              try clear hcz6_7
              try clear hcz6_8
              try clear hfz11_0
              try clear hfz11_1
              try clear hfz11_2
              try clear hfz11_3
              try clear hfz11_4
              try clear hfz11_5
              try clear hfz11_6
              try clear hfz11_7
              try clear hfz11_8
              try clear hfz15_0
              try clear hfz15_1
              try clear hfz15_2
              try clear hfz15_3
              try clear hfz15_4
              try clear hfz15_5
              try clear hfz15_6
              try clear hfz15_7
              try clear hfz15_8
              try clear hfz16_0
              try clear hfz16_1
              try clear hfz16_2
              try clear hfz16_3
              try clear hfz16_4
              try clear hfz16_5
              try clear hfz16_6
              try clear hfz16_7
              try clear hfz16_8
              try clear hfz19_0
              try clear hfz19_1
              try clear hfz19_2
              try clear hfz19_3
              try clear hfz19_4
              try clear hfz19_5
              try clear hfz19_6
              try clear hfz19_7
              try clear hfz19_8
              try clear hfz6_0
              try clear hfz6_1
              try clear hfz6_2
              try clear hfz6_3
              try clear hfz6_4
              try clear hfz6_5
              try clear hfz6_6
              try clear hfz6_7
              try clear hfz6_8
              try clear p2
              obtain ⟨x3_2, rfl, HA, HK2, BK286, HB⟩ := hrel
              cases gk with
              | zero => exact absurd HA.out (by simp [wainwrightref09_Right.l0])
              | succ k2 =>
                have H := HA.out
                clear HA
                simp only [wainwrightref09_Right.l0] at H
                by_cases c20 : x3_2 < (l0_4.length : Int)
                · rw [if_pos c20] at H
                  have c20b0 : decide (x3_2 < (l0_4.length : Int)) = true := decide_eq_true c20
                  clear c20
                  by_cases c21 : 0 ≤ x3_2
                  · rw [if_pos c21] at H
                    have c21b0 : decide (0 ≤ x3_2) = true := decide_eq_true c21
                    clear c21
                    replace H := Option.bind_eq_some_iff.mp H
                    obtain ⟨t289, A220, H⟩ := H
                    replace H : (if t289 = true then (wainwrightref09_Right.l0 k2 (wrap64 (x3_2 + 1)) a0_0 a0_1 a0_2 a0_3 l0_4 a0_5 a0_6 l0_7 a0_8) else (none)) = some r := H
                    have A22 := Aside0.mk A220
                    clear A220
                    by_cases c23 : t289 = true
                    · subst c23
                      have H1 : (wainwrightref09_Right.l0 k2 (wrap64 (x3_2 + 1)) a0_0 a0_1 a0_2 a0_3 l0_4 a0_5 a0_6 l0_7 a0_8) = some r := by rw [if_pos rfl] at H; exact H
                      clear H
                      have H := H1
                      clear H1
                      have H' := Aside0.mk H
                      clear H
                      have hcz24_0 : wr.cell? ⟨gb286, 0, none⟩ = some (.int .i64 a0_0) := (blk_cell BK286.out 0).trans rfl
                      have hcz24_1 : wr.cell? ⟨gb286, 1, none⟩ = some (.int .i64 a0_1) := (blk_cell BK286.out 1).trans rfl
                      have hcz24_2 : wr.cell? ⟨gb286, 2, none⟩ = some (.int .i64 a0_2) := (blk_cell BK286.out 2).trans rfl
                      have hcz24_3 : wr.cell? ⟨gb286, 3, none⟩ = some (.int .i64 a0_3) := (blk_cell BK286.out 3).trans rfl
                      have hcz24_4 : wr.cell? ⟨gb286, 4, none⟩ = some (.slice A0_4 l0_4.length c0_4) := (blk_cell BK286.out 4).trans rfl
                      have hcz24_5 : wr.cell? ⟨gb286, 5, none⟩ = some (.int .i64 a0_5) := (blk_cell BK286.out 5).trans rfl
                      have hcz24_6 : wr.cell? ⟨gb286, 6, none⟩ = some (.int .i64 a0_6) := (blk_cell BK286.out 6).trans rfl
                      have hcz24_7 : wr.cell? ⟨gb286, 7, none⟩ = some (.slice A0_7 l0_7.length c0_7) := (blk_cell BK286.out 7).trans rfl
                      have hcz24_8 : wr.cell? ⟨gb286, 8, none⟩ = some (.int .i64 a0_8) := (blk_cell BK286.out 8).trans rfl
                      have hfz24_0 := blk_frozen BK286.out 0
                      have hfz24_1 := blk_frozen BK286.out 1
                      have hfz24_2 := blk_frozen BK286.out 2
                      have hfz24_3 := blk_frozen BK286.out 3
                      have hfz24_4 := blk_frozen BK286.out 4
                      have hfz24_5 := blk_frozen BK286.out 5
                      have hfz24_6 := blk_frozen BK286.out 6
                      have hfz24_7 := blk_frozen BK286.out 7
                      have hfz24_8 := blk_frozen BK286.out 8
                      have p288 : 0 ≤ (x3_2 : Int) := of_decide_eq_true (by first | (with_reducible assumption) | assumption)
                      have q288 : x3_2 < (l0_4.length : Int) := of_decide_eq_true (by first | (with_reducible assumption) | assumption)
                      obtain ⟨ad288, e288, hx288_0⟩ := Kd.at_int HR0_4.out x3_2 p288 q288
                      cases e288
                      replace hx288_0 := (HB.out.cell (World.block_lt_of_cell? w _ hx288_0)).trans hx288_0
                      replace p288 := eq_true p288
                      replace q288 := eq_true q288
                      go_wp2_with (first | ((with_reducible refine gate_callee (f := 33) rfl ?_); refine goesL_ (some 45) rfl rfl Try.func33 (by kernel_rfl) rfl #[.int .i64 (rd l0_4 x3_2)] rfl (by (try simp only [List.map_toArray, List.map_cons, List.map_nil]); first | done | rfl | (simp only [List.length_drop, List.length_take]; rfl)) ?_; (with_reducible refine (wainwrightref09_small.calls (rd l0_4 x3_2) true _ A22.out).mono ?_); rintro e w' ⟨rfl, ⟨nd, rfl⟩⟩; refine ⟨_, rfl, ?_⟩))
                      go_roundg k2
                      case measure => have := HJ3.out; have := HK2.out; omega
                      case rel => exact ⟨(wrap64 (x3_2 + 1)), (by first | rfl | (simp; done) | (simp [*]; done) | exact gw_ne _ | exact gw_eq _), H', ⟨by have := HJ3.out; have := HK2.out; omega⟩, ⟨by (with_reducible repeat (first | refine blk_drewN ?_ _ | refine blk_drew ?_ | refine blk_alloc ?_ _)); exact BK286.out⟩, ⟨by repeat (first | (with_reducible first | exact HB.out | apply below_alloc | apply pw_below_drewN | apply below_drew1 | refine below_set ?_ GE286.out) | exact HB.out)⟩⟩
                    · replace c23 := Bool.eq_false_iff.mpr c23
                      subst c23
                      have H1 : (none) = some r := by rw [if_neg (show ¬ (false = true) by decide)] at H; exact H
                      clear H
                      have H := H1
                      clear H1
                      exact absurd H (by simp)
                  · rw [if_neg c21] at H
                    exact absurd H (by simp)
                · rw [if_neg c20] at H
                  have c20b0 : decide (x3_2 < (l0_4.length : Int)) = false := decide_eq_false c20
                  clear c20
                  by_cases c25 : a0_3 ≤ 9728
                  · rw [if_pos c25] at H
                    have c25b0 : decide (a0_3 ≤ 9728) = true := decide_eq_true c25
                    clear c25
                    by_cases c26 : (l0_4.length : Int) = 4
                    · rw [if_pos c26] at H
                      have c26b0 : ((l0_4.length : Int) == 4) = true := beq_iff_eq.mpr c26
                      have c26b1 : ((l0_4.length : Int) != 4) = false := bne_eq_false_iff_eq.mpr c26
                      clear c26
                      replace H := Option.bind_eq_some_iff.mp H
                      obtain ⟨t290, A270, H⟩ := H
                      replace H : (if t290 = true then ((wainwrightref09_small.f a0_6).bind fun t291 => (if t291 = true then (if (l0_7.length : Int) = 0 then (some (a0_8 == 0)) else (none)) else (none))) else (none)) = some r := H
                      have A27 := Aside0.mk A270
                      clear A270
                      by_cases c28 : t290 = true
                      · subst c28
                        have H1 : ((wainwrightref09_small.f a0_6).bind fun t291 => (if t291 = true then (if (l0_7.length : Int) = 0 then (some (a0_8 == 0)) else (none)) else (none))) = some r := by rw [if_pos rfl] at H; exact H
                        clear H
                        have H := H1
                        clear H1
                        replace H := Option.bind_eq_some_iff.mp H
                        obtain ⟨t291, A290, H⟩ := H
                        replace H : (if t291 = true then (if (l0_7.length : Int) = 0 then (some (a0_8 == 0)) else (none)) else (none)) = some r := H
                        have A29 := Aside0.mk A290
                        clear A290
                        by_cases c30 : t291 = true
                        · subst c30
                          have H1 : (if (l0_7.length : Int) = 0 then (some (a0_8 == 0)) else (none)) = some r := by rw [if_pos rfl] at H; exact H
                          clear H
                          have H := H1
                          clear H1
                          by_cases c31 : (l0_7.length : Int) = 0
                          · rw [if_pos c31] at H
                            have c31b0 : ((l0_7.length : Int) == 0) = true := beq_iff_eq.mpr c31
                            have c31b1 : ((l0_7.length : Int) != 0) = false := bne_eq_false_iff_eq.mpr c31
                            clear c31
                            obtain rfl := Option.some.inj H
                            have hcz32_0 : wr.cell? ⟨gb286, 0, none⟩ = some (.int .i64 a0_0) := (blk_cell BK286.out 0).trans rfl
                            have hcz32_1 : wr.cell? ⟨gb286, 1, none⟩ = some (.int .i64 a0_1) := (blk_cell BK286.out 1).trans rfl
                            have hcz32_2 : wr.cell? ⟨gb286, 2, none⟩ = some (.int .i64 a0_2) := (blk_cell BK286.out 2).trans rfl
                            have hcz32_3 : wr.cell? ⟨gb286, 3, none⟩ = some (.int .i64 a0_3) := (blk_cell BK286.out 3).trans rfl
                            have hcz32_4 : wr.cell? ⟨gb286, 4, none⟩ = some (.slice A0_4 l0_4.length c0_4) := (blk_cell BK286.out 4).trans rfl
                            have hcz32_5 : wr.cell? ⟨gb286, 5, none⟩ = some (.int .i64 a0_5) := (blk_cell BK286.out 5).trans rfl
                            have hcz32_6 : wr.cell? ⟨gb286, 6, none⟩ = some (.int .i64 a0_6) := (blk_cell BK286.out 6).trans rfl
                            have hcz32_7 : wr.cell? ⟨gb286, 7, none⟩ = some (.slice A0_7 l0_7.length c0_7) := (blk_cell BK286.out 7).trans rfl
                            have hcz32_8 : wr.cell? ⟨gb286, 8, none⟩ = some (.int .i64 a0_8) := (blk_cell BK286.out 8).trans rfl
                            have hfz32_0 := blk_frozen BK286.out 0
                            have hfz32_1 := blk_frozen BK286.out 1
                            have hfz32_2 := blk_frozen BK286.out 2
                            have hfz32_3 := blk_frozen BK286.out 3
                            have hfz32_4 := blk_frozen BK286.out 4
                            have hfz32_5 := blk_frozen BK286.out 5
                            have hfz32_6 := blk_frozen BK286.out 6
                            have hfz32_7 := blk_frozen BK286.out 7
                            have hfz32_8 := blk_frozen BK286.out 8
                            go_wp2_with (first | (go_at_call 33; (with_reducible refine (wainwrightref09_small.calls a0_5 true _ A27.out).mono ?_); rintro e w' ⟨rfl, ⟨nd, rfl⟩⟩) | (go_at_call 33; (with_reducible refine (wainwrightref09_small.calls a0_6 true _ A29.out).mono ?_); rintro e w' ⟨rfl, ⟨nd, rfl⟩⟩))
                            go_ret
                            exact ⟨by first | rfl | (simp [errW_none, errW_some] <;> rfl) | (simp [*, errW_none, errW_some] <;> rfl), by repeat (first | (with_reducible first | exact HB.out | apply below_alloc | apply pw_below_drewN | apply below_drew1 | refine below_set ?_ GE286.out) | exact HB.out)⟩
                          · rw [if_neg c31] at H
                            exact absurd H (by simp)
                        · replace c30 := Bool.eq_false_iff.mpr c30
                          subst c30
                          have H1 : (none) = some r := by rw [if_neg (show ¬ (false = true) by decide)] at H; exact H
                          clear H
                          have H := H1
                          clear H1
                          exact absurd H (by simp)
                      · replace c28 := Bool.eq_false_iff.mpr c28
                        subst c28
                        have H1 : (none) = some r := by rw [if_neg (show ¬ (false = true) by decide)] at H; exact H
                        clear H
                        have H := H1
                        clear H1
                        exact absurd H (by simp)
                    · rw [if_neg c26] at H
                      exact absurd H (by simp)
                  · rw [if_neg c25] at H
                    exact absurd H (by simp)
          · rw [if_neg c18] at H
            have c18b0 : (a0_0 == 1) = false := beq_eq_false_iff_ne.mpr c18
            have c18b1 : (a0_0 != 1) = true := bne_iff_ne.mpr c18
            by_cases c33 : a0_0 = 2
            · rw [if_pos c33] at H
              have c33b0 : (a0_0 == 2) = true := beq_iff_eq.mpr c33
              have c33b1 : (a0_0 != 2) = false := bne_eq_false_iff_eq.mpr c33
              clear c33
              by_cases c34 : a0_3 ≤ 15360
              · rw [if_pos c34] at H
                have c34b0 : decide (a0_3 ≤ 15360) = true := decide_eq_true c34
                clear c34
                by_cases c35 : (l0_4.length : Int) = 0
                · rw [if_pos c35] at H
                  have c35b0 : ((l0_4.length : Int) == 0) = true := beq_iff_eq.mpr c35
                  have c35b1 : ((l0_4.length : Int) != 0) = false := bne_eq_false_iff_eq.mpr c35
                  clear c35
                  by_cases c36 : a0_5 = 0
                  · rw [if_pos c36] at H
                    have c36b0 : (a0_5 == 0) = true := beq_iff_eq.mpr c36
                    have c36b1 : (a0_5 != 0) = false := bne_eq_false_iff_eq.mpr c36
                    clear c36
                    by_cases c37 : a0_6 = 0
                    · rw [if_pos c37] at H
                      have c37b0 : (a0_6 == 0) = true := beq_iff_eq.mpr c37
                      have c37b1 : (a0_6 != 0) = false := bne_eq_false_iff_eq.mpr c37
                      clear c37
                      by_cases c38 : (l0_7.length : Int) ≤ 3
                      · rw [if_pos c38] at H
                        have c38b0 : decide ((l0_7.length : Int) ≤ 3) = true := decide_eq_true c38
                        have c38b1 : decide (l0_7.length ≤ 3) = true := decide_eq_true (by omega)
                        clear c38
                        replace H := Option.bind_eq_some_iff.mp H
                        obtain ⟨t292, A390, H⟩ := H
                        replace H : (if t292 = true then ((wainwrightref09_small.f a0_8).bind fun t293 => (if t293 = true then (if a0_8 = 0 then (some true) else (none)) else (none))) else (none)) = some r := H
                        have A39 := Aside0.mk A390
                        clear A390
                        by_cases c40 : t292 = true
                        · subst c40
                          have H1 : ((wainwrightref09_small.f a0_8).bind fun t293 => (if t293 = true then (if a0_8 = 0 then (some true) else (none)) else (none))) = some r := by rw [if_pos rfl] at H; exact H
                          clear H
                          have H := H1
                          clear H1
                          replace H := Option.bind_eq_some_iff.mp H
                          obtain ⟨t293, A410, H⟩ := H
                          replace H : (if t293 = true then (if a0_8 = 0 then (some true) else (none)) else (none)) = some r := H
                          have A41 := Aside0.mk A410
                          clear A410
                          by_cases c42 : t293 = true
                          · subst c42
                            have H1 : (if a0_8 = 0 then (some true) else (none)) = some r := by rw [if_pos rfl] at H; exact H
                            clear H
                            have H := H1
                            clear H1
                            by_cases c43 : a0_8 = 0
                            · rw [if_pos c43] at H
                              have c43b0 : (a0_8 == 0) = true := beq_iff_eq.mpr c43
                              have c43b1 : (a0_8 != 0) = false := bne_eq_false_iff_eq.mpr c43
                              clear c43
                              obtain rfl := Option.some.inj H
                              have hcz44_0 : wc.cell? ⟨gb286, 0, none⟩ = some (.int .i64 a0_0) := (blk_cell BK286.out 0).trans rfl
                              have hcz44_1 : wc.cell? ⟨gb286, 1, none⟩ = some (.int .i64 a0_1) := (blk_cell BK286.out 1).trans rfl
                              have hcz44_2 : wc.cell? ⟨gb286, 2, none⟩ = some (.int .i64 a0_2) := (blk_cell BK286.out 2).trans rfl
                              have hcz44_3 : wc.cell? ⟨gb286, 3, none⟩ = some (.int .i64 a0_3) := (blk_cell BK286.out 3).trans rfl
                              have hcz44_4 : wc.cell? ⟨gb286, 4, none⟩ = some (.slice A0_4 l0_4.length c0_4) := (blk_cell BK286.out 4).trans rfl
                              have hcz44_5 : wc.cell? ⟨gb286, 5, none⟩ = some (.int .i64 a0_5) := (blk_cell BK286.out 5).trans rfl
                              have hcz44_6 : wc.cell? ⟨gb286, 6, none⟩ = some (.int .i64 a0_6) := (blk_cell BK286.out 6).trans rfl
                              have hcz44_7 : wc.cell? ⟨gb286, 7, none⟩ = some (.slice A0_7 l0_7.length c0_7) := (blk_cell BK286.out 7).trans rfl
                              have hcz44_8 : wc.cell? ⟨gb286, 8, none⟩ = some (.int .i64 a0_8) := (blk_cell BK286.out 8).trans rfl
                              have hfz44_0 := blk_frozen BK286.out 0
                              have hfz44_1 := blk_frozen BK286.out 1
                              have hfz44_2 := blk_frozen BK286.out 2
                              have hfz44_3 := blk_frozen BK286.out 3
                              have hfz44_4 := blk_frozen BK286.out 4
                              have hfz44_5 := blk_frozen BK286.out 5
                              have hfz44_6 := blk_frozen BK286.out 6
                              have hfz44_7 := blk_frozen BK286.out 7
                              have hfz44_8 := blk_frozen BK286.out 8
                              go_wp2_with (first | (go_at_call 34; (with_reducible refine (wainwrightref04_Right.calls _ _ l0_7 true _ ?side1 ?side2 A39.out).mono ?_); (case side1 => repeat (first | exact (Kd.C_below HR0_7.out HB.out) | (with_reducible refine Kd.C_alloc ?_ _) | (with_reducible refine Kd.C_drewN ?_ _) | (with_reducible refine Kd.C_drew ?_))); (case side2 => exact HC0_7.out); rintro e w45 ⟨rfl, hb⟩; have n0_ := Aside0.mk (blk_below (g := gb286) (o := .cells #[.int .i64 a0_0, .int .i64 a0_1, .int .i64 a0_2, .int .i64 a0_3, .slice A0_4 l0_4.length c0_4, .int .i64 a0_5, .int .i64 a0_6, .slice A0_7 l0_7.length c0_7, .int .i64 a0_8] 25 (0, 0)) (by (with_reducible repeat (first | refine blk_drewN ?_ _ | refine blk_drew ?_ | refine blk_alloc ?_ _)); exact BK286.out) hb); have n1_ := Aside0.mk (below_step (by repeat (first | (with_reducible first | exact HB.out | apply below_alloc | apply pw_below_drewN | apply below_drew1 | refine below_set ?_ GE286.out) | exact HB.out)) hb); clear BK286; clear HB; have BK286 := n0_; have HB := n1_; clear n0_ n1_; (try clear hb); (try clear hb2); (try clear hk); (try clear hi); obtain ⟨hcz46_0, hcz46_1, hcz46_2, hcz46_3, hcz46_4, hcz46_5, hcz46_6, hcz46_7, hcz46_8⟩ := cells9 BK286.out; obtain ⟨hfz46_0, hfz46_1, hfz46_2, hfz46_3, hfz46_4, hfz46_5, hfz46_6, hfz46_7, hfz46_8⟩ := frozen9 BK286.out) | (go_at_call 33; (with_reducible refine (wainwrightref09_small.calls a0_8 true _ A41.out).mono ?_); rintro e w' ⟨rfl, ⟨nd, rfl⟩⟩))
                              go_ret
                              exact ⟨by first | rfl | (simp [errW_none, errW_some] <;> rfl) | (simp [*, errW_none, errW_some] <;> rfl), by repeat (first | (with_reducible first | exact HB.out | apply below_alloc | apply pw_below_drewN | apply below_drew1 | refine below_set ?_ GE286.out) | exact HB.out)⟩
                            · rw [if_neg c43] at H
                              exact absurd H (by simp)
                          · replace c42 := Bool.eq_false_iff.mpr c42
                            subst c42
                            have H1 : (none) = some r := by rw [if_neg (show ¬ (false = true) by decide)] at H; exact H
                            clear H
                            have H := H1
                            clear H1
                            exact absurd H (by simp)
                        · replace c40 := Bool.eq_false_iff.mpr c40
                          subst c40
                          have H1 : (none) = some r := by rw [if_neg (show ¬ (false = true) by decide)] at H; exact H
                          clear H
                          have H := H1
                          clear H1
                          exact absurd H (by simp)
                      · rw [if_neg c38] at H
                        exact absurd H (by simp)
                    · rw [if_neg c37] at H
                      exact absurd H (by simp)
                  · rw [if_neg c36] at H
                    exact absurd H (by simp)
                · rw [if_neg c35] at H
                  exact absurd H (by simp)
              · rw [if_neg c34] at H
                exact absurd H (by simp)
            · rw [if_neg c33] at H
              have c33b0 : (a0_0 == 2) = false := beq_eq_false_iff_ne.mpr c33
              have c33b1 : (a0_0 != 2) = true := bne_iff_ne.mpr c33
              obtain rfl := Option.some.inj H
              have hcz47_0 : wc.cell? ⟨gb286, 0, none⟩ = some (.int .i64 a0_0) := (blk_cell BK286.out 0).trans rfl
              have hcz47_1 : wc.cell? ⟨gb286, 1, none⟩ = some (.int .i64 a0_1) := (blk_cell BK286.out 1).trans rfl
              have hcz47_2 : wc.cell? ⟨gb286, 2, none⟩ = some (.int .i64 a0_2) := (blk_cell BK286.out 2).trans rfl
              have hcz47_3 : wc.cell? ⟨gb286, 3, none⟩ = some (.int .i64 a0_3) := (blk_cell BK286.out 3).trans rfl
              have hcz47_4 : wc.cell? ⟨gb286, 4, none⟩ = some (.slice A0_4 l0_4.length c0_4) := (blk_cell BK286.out 4).trans rfl
              have hcz47_5 : wc.cell? ⟨gb286, 5, none⟩ = some (.int .i64 a0_5) := (blk_cell BK286.out 5).trans rfl
              have hcz47_6 : wc.cell? ⟨gb286, 6, none⟩ = some (.int .i64 a0_6) := (blk_cell BK286.out 6).trans rfl
              have hcz47_7 : wc.cell? ⟨gb286, 7, none⟩ = some (.slice A0_7 l0_7.length c0_7) := (blk_cell BK286.out 7).trans rfl
              have hcz47_8 : wc.cell? ⟨gb286, 8, none⟩ = some (.int .i64 a0_8) := (blk_cell BK286.out 8).trans rfl
              have hfz47_0 := blk_frozen BK286.out 0
              have hfz47_1 := blk_frozen BK286.out 1
              have hfz47_2 := blk_frozen BK286.out 2
              have hfz47_3 := blk_frozen BK286.out 3
              have hfz47_4 := blk_frozen BK286.out 4
              have hfz47_5 := blk_frozen BK286.out 5
              have hfz47_6 := blk_frozen BK286.out 6
              have hfz47_7 := blk_frozen BK286.out 7
              have hfz47_8 := blk_frozen BK286.out 8
              go_wp2
              go_ret
              exact ⟨by first | rfl | (simp [errW_none, errW_some] <;> rfl) | (simp [*, errW_none, errW_some] <;> rfl), by repeat (first | (with_reducible first | exact HB.out | apply below_alloc | apply pw_below_drewN | apply below_drew1 | refine below_set ?_ GE286.out) | exact HB.out)⟩

/-! ### wainwrightref09_New: function 18 -/
def wainwrightref09_New.f (k : Nat) (a0 : Int) (a1 : Int) : Option (Int × Int × Int × Int × List Int × Int × Int × (List (S48)) × Int × Int) := if a0 = 1 then ((some (([0, 0, 0, 0] : List Int) : List Int)).bind fun y296 => (if a0 = 0 then (some (0, 0, 0, 0, ([] : List Int), 0, 0, ([] : List (S48)), 0, 1)) else ((wainwrightref09_Right.f k a0 a1 1 0 y296 0 0 ([] : List (S48)) 0).bind fun t299 => (if t299 = true then (some (a0, a1, 1, 0, y296, 0, 0, ([] : List (S48)), 0, 0)) else (some (0, 0, 0, 0, ([] : List Int), 0, 0, ([] : List (S48)), 0, 1)))))) else (if a0 = 0 then (some (0, 0, 0, 0, ([] : List Int), 0, 0, ([] : List (S48)), 0, 1)) else ((wainwrightref09_Right.f k a0 a1 1 0 ([] : List Int) 0 0 ([] : List (S48)) 0).bind fun t300 => (if t300 = true then (some (a0, a1, 1, 0, ([] : List Int), 0, 0, ([] : List (S48)), 0, 0)) else (some (0, 0, 0, 0, ([] : List Int), 0, 0, ([] : List (S48)), 0, 1)))))
theorem wainwrightref09_New.mono : ∀ a0 a1 k, LeO (wainwrightref09_New.f k a0 a1) (wainwrightref09_New.f (k + 1) a0 a1) := by
  intro a0 a1 k
  unfold wainwrightref09_New.f
  repeat' first
      | (with_reducible exact wainwrightref09_Right.mono _ _ _ _ _ _ _ _ _ _)
      | (with_reducible exact LeO.refl _)
      | (with_reducible exact LeO.none _)
      | (with_reducible refine LeO.ite ?_ ?_)
      | (with_reducible refine LeO.bind ?_ (fun _ => ?_))
      | exact wainwrightref09_Right.mono _ _ _ _ _ _ _ _ _ _
      | exact LeO.none _
      | refine LeO.ite ?_ ?_
      | refine LeO.bind ?_ (fun _ => ?_)
set_option maxHeartbeats 8000000 in
set_option maxRecDepth 100000 in
theorem wainwrightref09_New.calls (k : Nat) (a0 : Int) (a1 : Int) (r1 : Int) (r2 : Int) (r3 : Int) (r4 : Int) (r5 : List Int) (r6 : Int) (r7 : Int) (r8 : List (S48)) (r9 : Int) (r10 : Int) (w : World) (h : wainwrightref09_New.f k a0 a1 = some (r1, r2, r3, r4, r5, r6, r7, r8, r9, r10)) :
    Calls Try.prog 18 #[.int .i64 a0, .int .i64 a1] w fun e w' => ∃ v4_ v7_ : Value, e = .returned (.tuple #[.agg #[.int .i64 r1, .int .i64 r2, .int .i64 r3, .int .i64 r4, v4_, .int .i64 r6, .int .i64 r7, v7_, .int .i64 r9], .int .i64 r10]) ∧ Kd.R (Kd.int .i64) 3 w' w.heap.size (fun _ => True) v4_ r5 ∧ Kd.R k48 48 w' w.heap.size (fun _ => True) v7_ r8 ∧ Below w.heap.size w w' := by
  have hu25 := Try.underlying25
  have HB := Aside0.mk (Below.refl w.heap.size w)
  have H : (if a0 = 1 then ((some (([0, 0, 0, 0] : List Int) : List Int)).bind fun y296 => (if a0 = 0 then (some (0, 0, 0, 0, ([] : List Int), 0, 0, ([] : List (S48)), 0, 1)) else ((wainwrightref09_Right.f k a0 a1 1 0 y296 0 0 ([] : List (S48)) 0).bind fun t299 => (if t299 = true then (some (a0, a1, 1, 0, y296, 0, 0, ([] : List (S48)), 0, 0)) else (some (0, 0, 0, 0, ([] : List Int), 0, 0, ([] : List (S48)), 0, 1)))))) else (if a0 = 0 then (some (0, 0, 0, 0, ([] : List Int), 0, 0, ([] : List (S48)), 0, 1)) else ((wainwrightref09_Right.f k a0 a1 1 0 ([] : List Int) 0 0 ([] : List (S48)) 0).bind fun t300 => (if t300 = true then (some (a0, a1, 1, 0, ([] : List Int), 0, 0, ([] : List (S48)), 0, 0)) else (some (0, 0, 0, 0, ([] : List Int), 0, 0, ([] : List (S48)), 0, 1)))))) = some (r1, r2, r3, r4, r5, r6, r7, r8, r9, r10) := h
  clear h
  by_cases c3 : a0 = 1
  all_goals (first
    | (skip
       rw [if_pos c3] at H
       have c3b0 : (a0 == 1) = true := beq_iff_eq.mpr c3
       have c3b1 : (a0 != 1) = false := bne_eq_false_iff_eq.mpr c3
       clear c3
       obtain ⟨yq2, hyq2⟩ : ∃ y_ : List Int, y_ = (([0, 0, 0, 0] : List Int)) := ⟨_, rfl⟩
       replace H : (if a0 = 0 then (some (0, 0, 0, 0, ([] : List Int), 0, 0, ([] : List (S48)), 0, 1)) else ((wainwrightref09_Right.f k a0 a1 1 0 yq2 0 0 ([] : List (S48)) 0).bind fun t299 => (if t299 = true then (some (a0, a1, 1, 0, yq2, 0, 0, ([] : List (S48)), 0, 0)) else (some (0, 0, 0, 0, ([] : List Int), 0, 0, ([] : List (S48)), 0, 1))))) = some (r1, r2, r3, r4, r5, r6, r7, r8, r9, r10) := by first | (rw [hyq2]; with_reducible exact H) | (have H2_ := (Option.bind_some _ _).symm.trans H; rw [hyq2]; with_reducible exact H2_) | (have H2_ := (Option.bind_some _ _).symm.trans H; with_reducible exact H2_) | with_reducible exact H | (rw [hyq2]; exact H) | exact H
       have Nyq2 := Aside0.mk hyq2
       clear hyq2
       by_cases c4 : a0 = 0
       all_goals (first
         | (skip
            rw [if_pos c4] at H
            have c4b0 : (a0 == 0) = true := beq_iff_eq.mpr c4
            have c4b1 : (a0 != 0) = false := bne_eq_false_iff_eq.mpr c4
            clear c4
            simp only [Option.some.injEq, Prod.mk.injEq] at H
            obtain ⟨rfl, rfl, rfl, rfl, rfl, rfl, rfl, rfl, rfl, rfl⟩ := H
            have C0_ : True := trivial
            have S0_ : True := trivial)
         | (skip
            rw [if_neg c4] at H
            have c4b0 : (a0 == 0) = false := beq_eq_false_iff_ne.mpr c4
            have c4b1 : (a0 != 0) = true := bne_iff_ne.mpr c4
            replace H := Option.bind_eq_some_iff.mp H
            obtain ⟨tq0, Aq0z, H⟩ := H
            have Aq0 := Aside0.mk Aq0z
            clear Aq0z
            by_cases c15 : tq0 = true
            all_goals (first
              | (skip
                 subst c15
                 rw [if_pos rfl] at H
                 simp only [Option.some.injEq, Prod.mk.injEq] at H
                 obtain ⟨rfl, rfl, rfl, rfl, rfl, rfl, rfl, rfl, rfl, rfl⟩ := H
                 have C0_ : True := trivial
                 have S1_ : True := trivial)
              | (skip
                 replace c15 := Bool.eq_false_iff.mpr c15
                 subst c15
                 rw [if_neg (show ¬ (false = true) by decide)] at H
                 simp only [Option.some.injEq, Prod.mk.injEq] at H
                 obtain ⟨rfl, rfl, rfl, rfl, rfl, rfl, rfl, rfl, rfl, rfl⟩ := H
                 have C0_ : True := trivial
                 have S2_ : True := trivial)))))
    | (skip
       rw [if_neg c3] at H
       have c3b0 : (a0 == 1) = false := beq_eq_false_iff_ne.mpr c3
       have c3b1 : (a0 != 1) = true := bne_iff_ne.mpr c3
       by_cases c37 : a0 = 0
       all_goals (first
         | (skip
            rw [if_pos c37] at H
            have c37b0 : (a0 == 0) = true := beq_iff_eq.mpr c37
            have c37b1 : (a0 != 0) = false := bne_eq_false_iff_eq.mpr c37
            clear c37
            simp only [Option.some.injEq, Prod.mk.injEq] at H
            obtain ⟨rfl, rfl, rfl, rfl, rfl, rfl, rfl, rfl, rfl, rfl⟩ := H
            have C0_ : True := trivial
            have S3_ : True := trivial)
         | (skip
            rw [if_neg c37] at H
            have c37b0 : (a0 == 0) = false := beq_eq_false_iff_ne.mpr c37
            have c37b1 : (a0 != 0) = true := bne_iff_ne.mpr c37
            replace H := Option.bind_eq_some_iff.mp H
            obtain ⟨tq1, Aq1z, H⟩ := H
            have Aq1 := Aside0.mk Aq1z
            clear Aq1z
            by_cases c44 : tq1 = true
            all_goals (first
              | (skip
                 subst c44
                 rw [if_pos rfl] at H
                 simp only [Option.some.injEq, Prod.mk.injEq] at H
                 obtain ⟨rfl, rfl, rfl, rfl, rfl, rfl, rfl, rfl, rfl, rfl⟩ := H
                 have C0_ : True := trivial
                 have S4_ : True := trivial)
              | (skip
                 replace c44 := Bool.eq_false_iff.mpr c44
                 subst c44
                 rw [if_neg (show ¬ (false = true) by decide)] at H
                 simp only [Option.some.injEq, Prod.mk.injEq] at H
                 obtain ⟨rfl, rfl, rfl, rfl, rfl, rfl, rfl, rfl, rfl, rfl⟩ := H
                 have C0_ : True := trivial
                 have S2_ : True := trivial))))))
  all_goals (
    first
    | (have _ := C0_
       go_enter Try.func18, Try.ntmps18
       go_wp2_with (first | ((with_reducible refine gate_dst (N := 4) rfl ?_); refine box_event ?hg (N := 4) ?hd (cs := #[.int .i64 0, .int .i64 0, .int .i64 0, .int .i64 0, .slice none 0 0, .int .i64 0, .int .i64 0, .slice none 0 0, .int .i64 0]) (t := 25) ?hr ?_; (case hd => rfl); (case hg => rfl); (case hr => first | (go_simp; done) | (go_simp; rfl)); intro gb294 hg wq4 hbox hb; have n0_ := Aside0.mk (below_step (by repeat (first | (with_reducible first | exact HB.out | apply below_alloc | apply pw_below_drewN | apply below_drew1) | exact HB.out)) hb); have n1_ := Aside0.mk (hbox); have n2_ := Aside0.mk ((by rw [hg]; exact (below_size (by repeat (first | (with_reducible first | exact HB.out | apply below_alloc | apply pw_below_drewN | apply below_drew1) | exact HB.out))) : w.heap.size ≤ gb294)); have n3_ := Aside0.mk ((by rw [hg]; exact (below_size (by repeat (first | (with_reducible first | exact HB.out | apply below_alloc | apply pw_below_drewN | apply below_drew1) | exact HB.out))) : w.heap.size ≤ gb294)); clear HB; have HB := n0_; have BK294 := n1_; have GW294 := n2_; have GE294 := n3_; clear n0_ n1_ n2_ n3_; clear hb hbox hg) | ((with_reducible refine gate_dst (N := 6) rfl ?_); refine box_event ?hg (N := 6) ?hd (cs := #[.int .i64 0, .int .i64 0, .int .i64 0, .int .i64 0, .slice none 0 0, .int .i64 0, .int .i64 0, .slice none 0 0, .int .i64 0]) (t := 25) ?hr ?_; (case hd => rfl); (case hg => rfl); (case hr => first | (go_simp; done) | (go_simp; rfl)); intro gb295 hg wq6 hbox hb; have n0_ := Aside0.mk (blk_below (g := gb294) (o := .cells #[.int .i64 0, .int .i64 0, .int .i64 0, .int .i64 0, .slice none 0 0, .int .i64 0, .int .i64 0, .slice none 0 0, .int .i64 0] 25 (0, 0)) (by (with_reducible repeat (first | refine blk_drewN ?_ _ | refine blk_drew ?_ | refine blk_alloc ?_ _)); exact BK294.out) hb); have n1_ := Aside0.mk (below_step (by repeat (first | (with_reducible first | exact HB.out | apply below_alloc | apply pw_below_drewN | apply below_drew1 | refine below_set ?_ GE294.out) | exact HB.out)) hb); have n2_ := Aside0.mk (hbox); have n3_ := Aside0.mk ((by rw [hg]; exact (below_size (by repeat (first | (with_reducible first | exact HB.out | apply below_alloc | apply pw_below_drewN | apply below_drew1 | refine below_set ?_ GE294.out) | exact HB.out))) : w.heap.size ≤ gb295)); have n4_ := Aside0.mk ((by rw [hg]; exact (below_size (by repeat (first | (with_reducible first | exact HB.out | apply below_alloc | apply pw_below_drewN | apply below_drew1 | refine below_set ?_ GE294.out) | exact HB.out))) : w.heap.size ≤ gb295)); have n5_ := Aside0.mk ((by rw [hg]; exact Nat.ne_of_lt (blk_lt (g := gb294) (o := .cells #[.int .i64 0, .int .i64 0, .int .i64 0, .int .i64 0, .slice none 0 0, .int .i64 0, .int .i64 0, .slice none 0 0, .int .i64 0] 25 (0, 0)) (by (with_reducible repeat (first | refine blk_drewN ?_ _ | refine blk_drew ?_ | refine blk_alloc ?_ _)); exact BK294.out)) : gb294 ≠ gb295)); have n6_ := Aside0.mk ((by rw [hg]; exact Nat.ne_of_gt (blk_lt (g := gb294) (o := .cells #[.int .i64 0, .int .i64 0, .int .i64 0, .int .i64 0, .slice none 0 0, .int .i64 0, .int .i64 0, .slice none 0 0, .int .i64 0] 25 (0, 0)) (by (with_reducible repeat (first | refine blk_drewN ?_ _ | refine blk_drew ?_ | refine blk_alloc ?_ _)); exact BK294.out)) : gb295 ≠ gb294)); clear BK294; clear HB; have BK294 := n0_; have HB := n1_; have BK295 := n2_; have GW295 := n3_; have GE295 := n4_; have NB294_295 := n5_; have NB295_294 := n6_; clear n0_ n1_ n2_ n3_ n4_ n5_ n6_; clear hb hbox hg; have hnbq6 := NB295_294.out; have hncq6 := NB294_295.out; obtain ⟨hczq6_0, hczq6_1, hczq6_2, hczq6_3, hczq6_4, hczq6_5, hczq6_6, hczq6_7, hczq6_8⟩ := cells9 BK295.out; obtain ⟨hfzq6_0, hfzq6_1, hfzq6_2, hfzq6_3, hfzq6_4, hfzq6_5, hfzq6_6, hfzq6_7, hfzq6_8⟩ := frozen9 BK295.out; have hczq6x22_0 : wq6.cell? ⟨gb294, 0, none⟩ = some (.int .i64 0) := (blk_cell BK294.out 0).trans rfl; have hczq6x23_1 : wq6.cell? ⟨gb294, 1, none⟩ = some (.int .i64 0) := (blk_cell BK294.out 1).trans rfl; have hczq6x24_2 : wq6.cell? ⟨gb294, 2, none⟩ = some (.int .i64 0) := (blk_cell BK294.out 2).trans rfl; have hczq6x25_3 : wq6.cell? ⟨gb294, 3, none⟩ = some (.int .i64 0) := (blk_cell BK294.out 3).trans rfl; have hczq6x26_4 : wq6.cell? ⟨gb294, 4, none⟩ = some (.slice none 0 0) := (blk_cell BK294.out 4).trans rfl; have hczq6x27_5 : wq6.cell? ⟨gb294, 5, none⟩ = some (.int .i64 0) := (blk_cell BK294.out 5).trans rfl; have hczq6x28_6 : wq6.cell? ⟨gb294, 6, none⟩ = some (.int .i64 0) := (blk_cell BK294.out 6).trans rfl; have hczq6x29_7 : wq6.cell? ⟨gb294, 7, none⟩ = some (.slice none 0 0) := (blk_cell BK294.out 7).trans rfl; have hczq6x30_8 : wq6.cell? ⟨gb294, 8, none⟩ = some (.int .i64 0) := (blk_cell BK294.out 8).trans rfl; have hfzq6x31_0 := blk_frozen BK294.out 0; have hfzq6x32_1 := blk_frozen BK294.out 1; have hfzq6x33_2 := blk_frozen BK294.out 2; have hfzq6x34_3 := blk_frozen BK294.out 3; have hfzq6x35_4 := blk_frozen BK294.out 4; have hfzq6x36_5 := blk_frozen BK294.out 5; have hfzq6x37_6 := blk_frozen BK294.out 6; have hfzq6x38_7 := blk_frozen BK294.out 7; have hfzq6x39_8 := blk_frozen BK294.out 8) | ((with_reducible refine gate_dst (N := 6) rfl ?_); refine box_event ?hg (N := 6) ?hd (cs := #[.int .i64 0, .int .i64 0, .int .i64 0, .int .i64 0, .slice none 0 0, .int .i64 0, .int .i64 0, .slice none 0 0, .int .i64 0]) (t := 25) ?hr ?_; (case hd => rfl); (case hg => rfl); (case hr => first | (go_simp; done) | (go_simp; rfl)); intro gb295 hg wq6 hbox hb; have n0_ := Aside0.mk (blk_below (g := gb294) (o := .cells #[.int .i64 0, .int .i64 0, .int .i64 0, .int .i64 0, .slice none 0 0, .int .i64 0, .int .i64 0, .slice none 0 0, .int .i64 0] 25 (0, 0)) (by (with_reducible repeat (first | refine blk_drewN ?_ _ | refine blk_drew ?_ | refine blk_alloc ?_ _)); exact BK294.out) hb); have n1_ := Aside0.mk (below_step (by repeat (first | (with_reducible first | exact HB.out | apply below_alloc | apply pw_below_drewN | apply below_drew1 | refine below_set ?_ GE294.out) | exact HB.out)) hb); have n2_ := Aside0.mk (hbox); have n3_ := Aside0.mk ((by rw [hg]; exact (below_size (by repeat (first | (with_reducible first | exact HB.out | apply below_alloc | apply pw_below_drewN | apply below_drew1 | refine below_set ?_ GE294.out) | exact HB.out))) : w.heap.size ≤ gb295)); have n4_ := Aside0.mk ((by rw [hg]; exact (below_size (by repeat (first | (with_reducible first | exact HB.out | apply below_alloc | apply pw_below_drewN | apply below_drew1 | refine below_set ?_ GE294.out) | exact HB.out))) : w.heap.size ≤ gb295)); have n5_ := Aside0.mk ((by rw [hg]; exact Nat.ne_of_lt (blk_lt (g := gb294) (o := .cells #[.int .i64 0, .int .i64 0, .int .i64 0, .int .i64 0, .slice none 0 0, .int .i64 0, .int .i64 0, .slice none 0 0, .int .i64 0] 25 (0, 0)) (by (with_reducible repeat (first | refine blk_drewN ?_ _ | refine blk_drew ?_ | refine blk_alloc ?_ _)); exact BK294.out)) : gb294 ≠ gb295)); have n6_ := Aside0.mk ((by rw [hg]; exact Nat.ne_of_gt (blk_lt (g := gb294) (o := .cells #[.int .i64 0, .int .i64 0, .int .i64 0, .int .i64 0, .slice none 0 0, .int .i64 0, .int .i64 0, .slice none 0 0, .int .i64 0] 25 (0, 0)) (by (with_reducible repeat (first | refine blk_drewN ?_ _ | refine blk_drew ?_ | refine blk_alloc ?_ _)); exact BK294.out)) : gb295 ≠ gb294)); clear BK294; clear HB; have BK294 := n0_; have HB := n1_; have BK295 := n2_; have GW295 := n3_; have GE295 := n4_; have NB294_295 := n5_; have NB295_294 := n6_; clear n0_ n1_ n2_ n3_ n4_ n5_ n6_; clear hb hbox hg; have hnbq6 := NB295_294.out; have hncq6 := NB294_295.out; obtain ⟨hczq6_0, hczq6_1, hczq6_2, hczq6_3, hczq6_4, hczq6_5, hczq6_6, hczq6_7, hczq6_8⟩ := cells9 BK295.out; obtain ⟨hfzq6_0, hfzq6_1, hfzq6_2, hfzq6_3, hfzq6_4, hfzq6_5, hfzq6_6, hfzq6_7, hfzq6_8⟩ := frozen9 BK295.out) | ((with_reducible refine gate_dst (N := 12) rfl ?_); refine Kd.R_lit (Kd.int .i64) _ 3 ?hg (N := 12) ?hd (xs := ([0, 0, 0, 0] : List Int)) (inner := [.int .i64 0, .int .i64 0, .int .i64 0, .int .i64 0]) (ok := fun _ => True) (okp := fun _ => True) ?hr ?hp (fun _ hk => hk) trivial (Below.refl _ _) (Nat.le_refl _) (by simp) ?_; (case hd => rfl); (case hg => rfl); (case hr => first | (go_simp; done) | (go_simp; rfl)); (case hp => exact (Reps.one (show Kd.M (Kd.int .i64) _ _ _ 0 [.int .i64 0] from rfl) (Reps.one (show Kd.M (Kd.int .i64) _ _ _ 0 [.int .i64 0] from rfl) (Reps.one (show Kd.M (Kd.int .i64) _ _ _ 0 [.int .i64 0] from rfl) (Reps.one (show Kd.M (Kd.int .i64) _ _ _ 0 [.int .i64 0] from rfl) (Reps.none _ _)))))); intro vq12 wq12 hoq12 hb hg_ hnew_; clear hg_ hnew_; (first | rw [← Nyq2.out] at hoq12 | (simp only [Int.reduceToNat] at hoq12; rw [← Nyq2.out] at hoq12)); have n0_ := Aside0.mk (Kd.R_lower hoq12 (below_size (by repeat (first | (with_reducible first | exact HB.out | apply below_alloc | apply pw_below_drewN | apply below_drew1 | refine below_set ?_ GE294.out | refine below_set ?_ GE295.out) | exact HB.out)))); have n1_ := Aside0.mk (blk_below (g := gb294) (o := .cells #[.int .i64 0, .int .i64 0, .int .i64 0, .int .i64 0, .slice none 0 0, .int .i64 0, .int .i64 0, .slice none 0 0, .int .i64 0] 25 (0, 0)) (by (with_reducible repeat (first | refine blk_drewN ?_ _ | refine blk_drew ?_ | refine blk_alloc ?_ _)); refine far9 ?_ NB294_295.out; (with_reducible repeat (first | refine blk_drewN ?_ _ | refine blk_drew ?_ | refine blk_alloc ?_ _)); exact BK294.out) hb); have n2_ := Aside0.mk (blk_below (g := gb295) (o := .cells #[.int .i64 a0, .int .i64 a1, .int .i64 1, .int .i64 0, .slice none 0 0, .int .i64 0, .int .i64 0, .slice none 0 0, .int .i64 0] 25 (0, 0)) (by (with_reducible repeat (first | refine blk_drewN ?_ _ | refine blk_drew ?_ | refine blk_alloc ?_ _)); refine put9 (cs := #[.int .i64 0, .int .i64 0, .int .i64 0, .int .i64 0, .slice none 0 0, .int .i64 0, .int .i64 0, .slice none 0 0, .int .i64 0]) ?_ rfl; (with_reducible repeat (first | refine blk_drewN ?_ _ | refine blk_drew ?_ | refine blk_alloc ?_ _)); exact BK295.out) hb); have n3_ := Aside0.mk (below_step (by repeat (first | (with_reducible first | exact HB.out | apply below_alloc | apply pw_below_drewN | apply below_drew1 | refine below_set ?_ GE294.out | refine below_set ?_ GE295.out) | exact HB.out)) hb); clear BK294; clear BK295; clear HB; have HO298 := n0_; have BK294 := n1_; have BK295 := n2_; have HB := n3_; clear n0_ n1_ n2_ n3_; clear hb hoq12; obtain ⟨Aoq12, coq12, eoq12⟩ := Kd.R_slice HO298.out; subst eoq12; obtain ⟨hczq12_0, hczq12_1, hczq12_2, hczq12_3, hczq12_4, hczq12_5, hczq12_6, hczq12_7, hczq12_8⟩ := cells9 BK295.out; obtain ⟨hfzq12_0, hfzq12_1, hfzq12_2, hfzq12_3, hfzq12_4, hfzq12_5, hfzq12_6, hfzq12_7, hfzq12_8⟩ := frozen9 BK295.out; have hczq12x46_0 : wq12.cell? ⟨gb294, 0, none⟩ = some (.int .i64 0) := (blk_cell BK294.out 0).trans rfl; have hczq12x47_1 : wq12.cell? ⟨gb294, 1, none⟩ = some (.int .i64 0) := (blk_cell BK294.out 1).trans rfl; have hczq12x48_2 : wq12.cell? ⟨gb294, 2, none⟩ = some (.int .i64 0) := (blk_cell BK294.out 2).trans rfl; have hczq12x49_3 : wq12.cell? ⟨gb294, 3, none⟩ = some (.int .i64 0) := (blk_cell BK294.out 3).trans rfl; have hczq12x50_4 : wq12.cell? ⟨gb294, 4, none⟩ = some (.slice none 0 0) := (blk_cell BK294.out 4).trans rfl; have hczq12x51_5 : wq12.cell? ⟨gb294, 5, none⟩ = some (.int .i64 0) := (blk_cell BK294.out 5).trans rfl; have hczq12x52_6 : wq12.cell? ⟨gb294, 6, none⟩ = some (.int .i64 0) := (blk_cell BK294.out 6).trans rfl; have hczq12x53_7 : wq12.cell? ⟨gb294, 7, none⟩ = some (.slice none 0 0) := (blk_cell BK294.out 7).trans rfl; have hczq12x54_8 : wq12.cell? ⟨gb294, 8, none⟩ = some (.int .i64 0) := (blk_cell BK294.out 8).trans rfl; have hfzq12x55_0 := blk_frozen BK294.out 0; have hfzq12x56_1 := blk_frozen BK294.out 1; have hfzq12x57_2 := blk_frozen BK294.out 2; have hfzq12x58_3 := blk_frozen BK294.out 3; have hfzq12x59_4 := blk_frozen BK294.out 4; have hfzq12x60_5 := blk_frozen BK294.out 5; have hfzq12x61_6 := blk_frozen BK294.out 6; have hfzq12x62_7 := blk_frozen BK294.out 7; have hfzq12x63_8 := blk_frozen BK294.out 8) | ((with_reducible refine gate_dst (N := 12) rfl ?_); refine Kd.R_lit (Kd.int .i64) _ 3 ?hg (N := 12) ?hd (xs := ([0, 0, 0, 0] : List Int)) (inner := [.int .i64 0, .int .i64 0, .int .i64 0, .int .i64 0]) (ok := fun _ => True) (okp := fun _ => True) ?hr ?hp (fun _ hk => hk) trivial (Below.refl _ _) (Nat.le_refl _) (by simp) ?_; (case hd => rfl); (case hg => rfl); (case hr => first | (go_simp; done) | (go_simp; rfl)); (case hp => exact (Reps.one (show Kd.M (Kd.int .i64) _ _ _ 0 [.int .i64 0] from rfl) (Reps.one (show Kd.M (Kd.int .i64) _ _ _ 0 [.int .i64 0] from rfl) (Reps.one (show Kd.M (Kd.int .i64) _ _ _ 0 [.int .i64 0] from rfl) (Reps.one (show Kd.M (Kd.int .i64) _ _ _ 0 [.int .i64 0] from rfl) (Reps.none _ _)))))); intro vq12 wq12 hoq12 hb hg_ hnew_; clear hg_ hnew_; (first | rw [← Nyq2.out] at hoq12 | (simp only [Int.reduceToNat] at hoq12; rw [← Nyq2.out] at hoq12)); have n0_ := Aside0.mk (Kd.R_lower hoq12 (below_size (by repeat (first | (with_reducible first | exact HB.out | apply below_alloc | apply pw_below_drewN | apply below_drew1 | refine below_set ?_ GE294.out | refine below_set ?_ GE295.out) | exact HB.out)))); have n1_ := Aside0.mk (blk_below (g := gb294) (o := .cells #[.int .i64 0, .int .i64 0, .int .i64 0, .int .i64 0, .slice none 0 0, .int .i64 0, .int .i64 0, .slice none 0 0, .int .i64 0] 25 (0, 0)) (by (with_reducible repeat (first | refine blk_drewN ?_ _ | refine blk_drew ?_ | refine blk_alloc ?_ _)); refine far9 ?_ NB294_295.out; (with_reducible repeat (first | refine blk_drewN ?_ _ | refine blk_drew ?_ | refine blk_alloc ?_ _)); exact BK294.out) hb); have n2_ := Aside0.mk (blk_below (g := gb295) (o := .cells #[.int .i64 a0, .int .i64 a1, .int .i64 1, .int .i64 0, .slice none 0 0, .int .i64 0, .int .i64 0, .slice none 0 0, .int .i64 0] 25 (0, 0)) (by (with_reducible repeat (first | refine blk_drewN ?_ _ | refine blk_drew ?_ | refine blk_alloc ?_ _)); refine put9 (cs := #[.int .i64 0, .int .i64 0, .int .i64 0, .int .i64 0, .slice none 0 0, .int .i64 0, .int .i64 0, .slice none 0 0, .int .i64 0]) ?_ rfl; (with_reducible repeat (first | refine blk_drewN ?_ _ | refine blk_drew ?_ | refine blk_alloc ?_ _)); exact BK295.out) hb); have n3_ := Aside0.mk (below_step (by repeat (first | (with_reducible first | exact HB.out | apply below_alloc | apply pw_below_drewN | apply below_drew1 | refine below_set ?_ GE294.out | refine below_set ?_ GE295.out) | exact HB.out)) hb); clear BK294; clear BK295; clear HB; have HO298 := n0_; have BK294 := n1_; have BK295 := n2_; have HB := n3_; clear n0_ n1_ n2_ n3_; clear hb hoq12; obtain ⟨Aoq12, coq12, eoq12⟩ := Kd.R_slice HO298.out; subst eoq12; obtain ⟨hczq12_0, hczq12_1, hczq12_2, hczq12_3, hczq12_4, hczq12_5, hczq12_6, hczq12_7, hczq12_8⟩ := cells9 BK295.out; obtain ⟨hfzq12_0, hfzq12_1, hfzq12_2, hfzq12_3, hfzq12_4, hfzq12_5, hfzq12_6, hfzq12_7, hfzq12_8⟩ := frozen9 BK295.out) | (go_at_call 12; (refine (wainwrightref09_Right.calls k a0 a1 1 0 _ _ ([] : List Int) 0 0 _ _ ([] : List (S48)) 0 _ _ ?side1 ?side2 ?side3 ?side4 Aq1.out).mono ?_); (case side1 => exact Kd.C_nil _ _); (case side2 => exact Nat.le_refl _); (case side3 => exact Kd.C_nil _ _); (case side4 => exact Nat.le_refl _); rintro e wqgo_at_call12refinewa ⟨rfl, hb⟩; have n0_ := Aside0.mk (blk_below (g := gb294) (o := .cells #[.int .i64 0, .int .i64 0, .int .i64 0, .int .i64 0, .slice none 0 0, .int .i64 0, .int .i64 0, .slice none 0 0, .int .i64 0] 25 (0, 0)) (by (with_reducible repeat (first | refine blk_drewN ?_ _ | refine blk_drew ?_ | refine blk_alloc ?_ _)); refine far9 ?_ NB294_295.out; (with_reducible repeat (first | refine blk_drewN ?_ _ | refine blk_drew ?_ | refine blk_alloc ?_ _)); exact BK294.out) hb); have n1_ := Aside0.mk (blk_below (g := gb295) (o := .cells #[.int .i64 a0, .int .i64 a1, .int .i64 1, .int .i64 0, .slice none 0 0, .int .i64 0, .int .i64 0, .slice none 0 0, .int .i64 0] 25 (0, 0)) (by (with_reducible repeat (first | refine blk_drewN ?_ _ | refine blk_drew ?_ | refine blk_alloc ?_ _)); refine put9 (cs := #[.int .i64 0, .int .i64 0, .int .i64 0, .int .i64 0, .slice none 0 0, .int .i64 0, .int .i64 0, .slice none 0 0, .int .i64 0]) ?_ rfl; (with_reducible repeat (first | refine blk_drewN ?_ _ | refine blk_drew ?_ | refine blk_alloc ?_ _)); exact BK295.out) hb); have n2_ := Aside0.mk (below_step (by repeat (first | (with_reducible first | exact HB.out | apply below_alloc | apply pw_below_drewN | apply below_drew1 | refine below_set ?_ GE294.out | refine below_set ?_ GE295.out) | exact HB.out)) hb); clear BK294; clear BK295; clear HB; have BK294 := n0_; have BK295 := n1_; have HB := n2_; clear n0_ n1_ n2_; (try clear hb); (try clear hb2); (try clear hk); (try clear hi); obtain ⟨hczqgo_at_call12refinewa_0, hczqgo_at_call12refinewa_1, hczqgo_at_call12refinewa_2, hczqgo_at_call12refinewa_3, hczqgo_at_call12refinewa_4, hczqgo_at_call12refinewa_5, hczqgo_at_call12refinewa_6, hczqgo_at_call12refinewa_7, hczqgo_at_call12refinewa_8⟩ := cells9 BK295.out; obtain ⟨hfzqgo_at_call12refinewa_0, hfzqgo_at_call12refinewa_1, hfzqgo_at_call12refinewa_2, hfzqgo_at_call12refinewa_3, hfzqgo_at_call12refinewa_4, hfzqgo_at_call12refinewa_5, hfzqgo_at_call12refinewa_6, hfzqgo_at_call12refinewa_7, hfzqgo_at_call12refinewa_8⟩ := frozen9 BK295.out; have hczqgo_at_call12refinewax41_0 : wqgo_at_call12refinewa.cell? ⟨gb294, 0, none⟩ = some (.int .i64 0) := (blk_cell BK294.out 0).trans rfl; have hczqgo_at_call12refinewax42_1 : wqgo_at_call12refinewa.cell? ⟨gb294, 1, none⟩ = some (.int .i64 0) := (blk_cell BK294.out 1).trans rfl; have hczqgo_at_call12refinewax43_2 : wqgo_at_call12refinewa.cell? ⟨gb294, 2, none⟩ = some (.int .i64 0) := (blk_cell BK294.out 2).trans rfl; have hczqgo_at_call12refinewax44_3 : wqgo_at_call12refinewa.cell? ⟨gb294, 3, none⟩ = some (.int .i64 0) := (blk_cell BK294.out 3).trans rfl; have hczqgo_at_call12refinewax45_4 : wqgo_at_call12refinewa.cell? ⟨gb294, 4, none⟩ = some (.slice none 0 0) := (blk_cell BK294.out 4).trans rfl; have hczqgo_at_call12refinewax46_5 : wqgo_at_call12refinewa.cell? ⟨gb294, 5, none⟩ = some (.int .i64 0) := (blk_cell BK294.out 5).trans rfl; have hczqgo_at_call12refinewax47_6 : wqgo_at_call12refinewa.cell? ⟨gb294, 6, none⟩ = some (.int .i64 0) := (blk_cell BK294.out 6).trans rfl; have hczqgo_at_call12refinewax48_7 : wqgo_at_call12refinewa.cell? ⟨gb294, 7, none⟩ = some (.slice none 0 0) := (blk_cell BK294.out 7).trans rfl; have hczqgo_at_call12refinewax49_8 : wqgo_at_call12refinewa.cell? ⟨gb294, 8, none⟩ = some (.int .i64 0) := (blk_cell BK294.out 8).trans rfl; have hfzqgo_at_call12refinewax50_0 := blk_frozen BK294.out 0; have hfzqgo_at_call12refinewax51_1 := blk_frozen BK294.out 1; have hfzqgo_at_call12refinewax52_2 := blk_frozen BK294.out 2; have hfzqgo_at_call12refinewax53_3 := blk_frozen BK294.out 3; have hfzqgo_at_call12refinewax54_4 := blk_frozen BK294.out 4; have hfzqgo_at_call12refinewax55_5 := blk_frozen BK294.out 5; have hfzqgo_at_call12refinewax56_6 := blk_frozen BK294.out 6; have hfzqgo_at_call12refinewax57_7 := blk_frozen BK294.out 7; have hfzqgo_at_call12refinewax58_8 := blk_frozen BK294.out 8) | (go_at_call 12; (refine (wainwrightref09_Right.calls k a0 a1 1 0 _ _ ([] : List Int) 0 0 _ _ ([] : List (S48)) 0 _ _ ?side1 ?side2 ?side3 ?side4 Aq1.out).mono ?_); (case side1 => exact Kd.C_nil _ _); (case side2 => exact Nat.le_refl _); (case side3 => exact Kd.C_nil _ _); (case side4 => exact Nat.le_refl _); rintro e wqgo_at_call12refinewa ⟨rfl, hb⟩; have n0_ := Aside0.mk (blk_below (g := gb294) (o := .cells #[.int .i64 0, .int .i64 0, .int .i64 0, .int .i64 0, .slice none 0 0, .int .i64 0, .int .i64 0, .slice none 0 0, .int .i64 0] 25 (0, 0)) (by (with_reducible repeat (first | refine blk_drewN ?_ _ | refine blk_drew ?_ | refine blk_alloc ?_ _)); refine far9 ?_ NB294_295.out; (with_reducible repeat (first | refine blk_drewN ?_ _ | refine blk_drew ?_ | refine blk_alloc ?_ _)); exact BK294.out) hb); have n1_ := Aside0.mk (blk_below (g := gb295) (o := .cells #[.int .i64 a0, .int .i64 a1, .int .i64 1, .int .i64 0, .slice none 0 0, .int .i64 0, .int .i64 0, .slice none 0 0, .int .i64 0] 25 (0, 0)) (by (with_reducible repeat (first | refine blk_drewN ?_ _ | refine blk_drew ?_ | refine blk_alloc ?_ _)); refine put9 (cs := #[.int .i64 0, .int .i64 0, .int .i64 0, .int .i64 0, .slice none 0 0, .int .i64 0, .int .i64 0, .slice none 0 0, .int .i64 0]) ?_ rfl; (with_reducible repeat (first | refine blk_drewN ?_ _ | refine blk_drew ?_ | refine blk_alloc ?_ _)); exact BK295.out) hb); have n2_ := Aside0.mk (below_step (by repeat (first | (with_reducible first | exact HB.out | apply below_alloc | apply pw_below_drewN | apply below_drew1 | refine below_set ?_ GE294.out | refine below_set ?_ GE295.out) | exact HB.out)) hb); clear BK294; clear BK295; clear HB; have BK294 := n0_; have BK295 := n1_; have HB := n2_; clear n0_ n1_ n2_; (try clear hb); (try clear hb2); (try clear hk); (try clear hi); obtain ⟨hczqgo_at_call12refinewa_0, hczqgo_at_call12refinewa_1, hczqgo_at_call12refinewa_2, hczqgo_at_call12refinewa_3, hczqgo_at_call12refinewa_4, hczqgo_at_call12refinewa_5, hczqgo_at_call12refinewa_6, hczqgo_at_call12refinewa_7, hczqgo_at_call12refinewa_8⟩ := cells9 BK294.out; obtain ⟨hfzqgo_at_call12refinewa_0, hfzqgo_at_call12refinewa_1, hfzqgo_at_call12refinewa_2, hfzqgo_at_call12refinewa_3, hfzqgo_at_call12refinewa_4, hfzqgo_at_call12refinewa_5, hfzqgo_at_call12refinewa_6, hfzqgo_at_call12refinewa_7, hfzqgo_at_call12refinewa_8⟩ := frozen9 BK294.out) | (go_at_call 12; (refine (wainwrightref09_Right.calls k a0 a1 1 0 _ _ yq2 0 0 _ _ ([] : List (S48)) 0 _ _ ?side1 ?side2 ?side3 ?side4 Aq0.out).mono ?_); (case side1 => refine (Kd.R_reads' (e := 3) (base := w.heap.size) (ok := fun k_ => True) (n := yq2.length) (c := coq12) ?_).2.2; exact (by (with_reducible repeat (first | apply Kd.R_alloc | apply Kd.R_drewN | apply Kd.R_drew)); exact (Kd.R_mono (Kd.R_far (p := ⟨gb295, 4, none⟩) (Kd.R_types HO298.out BK295.out (by decide)) (fun _ hk => hk.2) (.slice Aoq12 yq2.length coq12)) (fun _ h_ => h_.1)))); (case side2 => exact (Kd.R_reads' HO298.out).2.1); (case side3 => exact Kd.C_nil _ _); (case side4 => exact Nat.le_refl _); rintro e wqgo_at_call12refinewa ⟨rfl, hb⟩; have n0_ := Aside0.mk (Kd.R_below (by (with_reducible repeat (first | apply Kd.R_alloc | apply Kd.R_drewN | apply Kd.R_drew)); exact (Kd.R_mono (Kd.R_far (p := ⟨gb295, 4, none⟩) (Kd.R_types HO298.out BK295.out (by decide)) (fun _ hk => hk.2) (.slice Aoq12 yq2.length coq12)) (fun _ h_ => h_.1))) hb); have n1_ := Aside0.mk (blk_below (g := gb294) (o := .cells #[.int .i64 0, .int .i64 0, .int .i64 0, .int .i64 0, .slice none 0 0, .int .i64 0, .int .i64 0, .slice none 0 0, .int .i64 0] 25 (0, 0)) (by (with_reducible repeat (first | refine blk_drewN ?_ _ | refine blk_drew ?_ | refine blk_alloc ?_ _)); refine blk_far ?_ NB294_295.out _; (with_reducible repeat (first | refine blk_drewN ?_ _ | refine blk_drew ?_ | refine blk_alloc ?_ _)); exact BK294.out) hb); have n2_ := Aside0.mk (blk_below (g := gb295) (o := .cells #[.int .i64 a0, .int .i64 a1, .int .i64 1, .int .i64 0, .slice Aoq12 yq2.length coq12, .int .i64 0, .int .i64 0, .slice none 0 0, .int .i64 0] 25 (0, 0)) (by (with_reducible repeat (first | refine blk_drewN ?_ _ | refine blk_drew ?_ | refine blk_alloc ?_ _)); refine blk_put (cs := #[.int .i64 a0, .int .i64 a1, .int .i64 1, .int .i64 0, .slice none 0 0, .int .i64 0, .int .i64 0, .slice none 0 0, .int .i64 0]) ?_ 4 _ rfl; (with_reducible repeat (first | refine blk_drewN ?_ _ | refine blk_drew ?_ | refine blk_alloc ?_ _)); exact BK295.out) hb); have n3_ := Aside0.mk (below_step (by repeat (first | (with_reducible first | exact HB.out | apply below_alloc | apply pw_below_drewN | apply below_drew1 | refine below_set ?_ GE294.out | refine below_set ?_ GE295.out) | exact HB.out)) hb); clear HO298; clear BK294; clear BK295; clear HB; have HO298 := n0_; have BK294 := n1_; have BK295 := n2_; have HB := n3_; clear n0_ n1_ n2_ n3_; (try clear hb); (try clear hb2); (try clear hk); (try clear hi); obtain ⟨hczqgo_at_call12refinewa_0, hczqgo_at_call12refinewa_1, hczqgo_at_call12refinewa_2, hczqgo_at_call12refinewa_3, hczqgo_at_call12refinewa_4, hczqgo_at_call12refinewa_5, hczqgo_at_call12refinewa_6, hczqgo_at_call12refinewa_7, hczqgo_at_call12refinewa_8⟩ := cells9 BK295.out; obtain ⟨hfzqgo_at_call12refinewa_0, hfzqgo_at_call12refinewa_1, hfzqgo_at_call12refinewa_2, hfzqgo_at_call12refinewa_3, hfzqgo_at_call12refinewa_4, hfzqgo_at_call12refinewa_5, hfzqgo_at_call12refinewa_6, hfzqgo_at_call12refinewa_7, hfzqgo_at_call12refinewa_8⟩ := frozen9 BK295.out; have hczqgo_at_call12refinewax65_0 : wqgo_at_call12refinewa.cell? ⟨gb294, 0, none⟩ = some (.int .i64 0) := (blk_cell BK294.out 0).trans rfl; have hczqgo_at_call12refinewax66_1 : wqgo_at_call12refinewa.cell? ⟨gb294, 1, none⟩ = some (.int .i64 0) := (blk_cell BK294.out 1).trans rfl; have hczqgo_at_call12refinewax67_2 : wqgo_at_call12refinewa.cell? ⟨gb294, 2, none⟩ = some (.int .i64 0) := (blk_cell BK294.out 2).trans rfl; have hczqgo_at_call12refinewax68_3 : wqgo_at_call12refinewa.cell? ⟨gb294, 3, none⟩ = some (.int .i64 0) := (blk_cell BK294.out 3).trans rfl; have hczqgo_at_call12refinewax69_4 : wqgo_at_call12refinewa.cell? ⟨gb294, 4, none⟩ = some (.slice none 0 0) := (blk_cell BK294.out 4).trans rfl; have hczqgo_at_call12refinewax70_5 : wqgo_at_call12refinewa.cell? ⟨gb294, 5, none⟩ = some (.int .i64 0) := (blk_cell BK294.out 5).trans rfl; have hczqgo_at_call12refinewax71_6 : wqgo_at_call12refinewa.cell? ⟨gb294, 6, none⟩ = some (.int .i64 0) := (blk_cell BK294.out 6).trans rfl; have hczqgo_at_call12refinewax72_7 : wqgo_at_call12refinewa.cell? ⟨gb294, 7, none⟩ = some (.slice none 0 0) := (blk_cell BK294.out 7).trans rfl; have hczqgo_at_call12refinewax73_8 : wqgo_at_call12refinewa.cell? ⟨gb294, 8, none⟩ = some (.int .i64 0) := (blk_cell BK294.out 8).trans rfl; have hfzqgo_at_call12refinewax74_0 := blk_frozen BK294.out 0; have hfzqgo_at_call12refinewax75_1 := blk_frozen BK294.out 1; have hfzqgo_at_call12refinewax76_2 := blk_frozen BK294.out 2; have hfzqgo_at_call12refinewax77_3 := blk_frozen BK294.out 3; have hfzqgo_at_call12refinewax78_4 := blk_frozen BK294.out 4; have hfzqgo_at_call12refinewax79_5 := blk_frozen BK294.out 5; have hfzqgo_at_call12refinewax80_6 := blk_frozen BK294.out 6; have hfzqgo_at_call12refinewax81_7 := blk_frozen BK294.out 7; have hfzqgo_at_call12refinewax82_8 := blk_frozen BK294.out 8) | (go_at_call 12; (refine (wainwrightref09_Right.calls k a0 a1 1 0 _ _ yq2 0 0 _ _ ([] : List (S48)) 0 _ _ ?side1 ?side2 ?side3 ?side4 Aq0.out).mono ?_); (case side1 => refine (Kd.R_reads' (e := 3) (base := w.heap.size) (ok := fun k_ => True) (n := yq2.length) (c := coq12) ?_).2.2; exact (by (with_reducible repeat (first | apply Kd.R_alloc | apply Kd.R_drewN | apply Kd.R_drew)); exact (Kd.R_mono (Kd.R_far (p := ⟨gb295, 4, none⟩) (Kd.R_types HO298.out BK295.out (by decide)) (fun _ hk => hk.2) (.slice Aoq12 yq2.length coq12)) (fun _ h_ => h_.1)))); (case side2 => exact (Kd.R_reads' HO298.out).2.1); (case side3 => exact Kd.C_nil _ _); (case side4 => exact Nat.le_refl _); rintro e wqgo_at_call12refinewa ⟨rfl, hb⟩; have n0_ := Aside0.mk (Kd.R_below (by (with_reducible repeat (first | apply Kd.R_alloc | apply Kd.R_drewN | apply Kd.R_drew)); exact (Kd.R_mono (Kd.R_far (p := ⟨gb295, 4, none⟩) (Kd.R_types HO298.out BK295.out (by decide)) (fun _ hk => hk.2) (.slice Aoq12 yq2.length coq12)) (fun _ h_ => h_.1))) hb); have n1_ := Aside0.mk (blk_below (g := gb294) (o := .cells #[.int .i64 0, .int .i64 0, .int .i64 0, .int .i64 0, .slice none 0 0, .int .i64 0, .int .i64 0, .slice none 0 0, .int .i64 0] 25 (0, 0)) (by (with_reducible repeat (first | refine blk_drewN ?_ _ | refine blk_drew ?_ | refine blk_alloc ?_ _)); refine blk_far ?_ NB294_295.out _; (with_reducible repeat (first | refine blk_drewN ?_ _ | refine blk_drew ?_ | refine blk_alloc ?_ _)); exact BK294.out) hb); have n2_ := Aside0.mk (blk_below (g := gb295) (o := .cells #[.int .i64 a0, .int .i64 a1, .int .i64 1, .int .i64 0, .slice Aoq12 yq2.length coq12, .int .i64 0, .int .i64 0, .slice none 0 0, .int .i64 0] 25 (0, 0)) (by (with_reducible repeat (first | refine blk_drewN ?_ _ | refine blk_drew ?_ | refine blk_alloc ?_ _)); refine blk_put (cs := #[.int .i64 a0, .int .i64 a1, .int .i64 1, .int .i64 0, .slice none 0 0, .int .i64 0, .int .i64 0, .slice none 0 0, .int .i64 0]) ?_ 4 _ rfl; (with_reducible repeat (first | refine blk_drewN ?_ _ | refine blk_drew ?_ | refine blk_alloc ?_ _)); exact BK295.out) hb); have n3_ := Aside0.mk (below_step (by repeat (first | (with_reducible first | exact HB.out | apply below_alloc | apply pw_below_drewN | apply below_drew1 | refine below_set ?_ GE294.out | refine below_set ?_ GE295.out) | exact HB.out)) hb); clear HO298; clear BK294; clear BK295; clear HB; have HO298 := n0_; have BK294 := n1_; have BK295 := n2_; have HB := n3_; clear n0_ n1_ n2_ n3_; (try clear hb); (try clear hb2); (try clear hk); (try clear hi); obtain ⟨hczqgo_at_call12refinewa_0, hczqgo_at_call12refinewa_1, hczqgo_at_call12refinewa_2, hczqgo_at_call12refinewa_3, hczqgo_at_call12refinewa_4, hczqgo_at_call12refinewa_5, hczqgo_at_call12refinewa_6, hczqgo_at_call12refinewa_7, hczqgo_at_call12refinewa_8⟩ := cells9 BK294.out; obtain ⟨hfzqgo_at_call12refinewa_0, hfzqgo_at_call12refinewa_1, hfzqgo_at_call12refinewa_2, hfzqgo_at_call12refinewa_3, hfzqgo_at_call12refinewa_4, hfzqgo_at_call12refinewa_5, hfzqgo_at_call12refinewa_6, hfzqgo_at_call12refinewa_7, hfzqgo_at_call12refinewa_8⟩ := frozen9 BK294.out))
       first
       | (have _ := S0_
          refine bodyPost_ret (results_ct rfl _ _ gb294 25 #[.int .i64 0, .int .i64 0, .int .i64 0, .int .i64 0, .slice none 0 0, .int .i64 0, .int .i64 0, .slice none 0 0, .int .i64 0] (0, 0) _ rfl (by (with_reducible repeat (first | refine blk_drewN ?_ _ | refine blk_drew ?_ | refine blk_alloc ?_ _)); refine put9 (cs := #[.int .i64 0, .int .i64 0, .int .i64 0, .int .i64 0, .slice none 0 0, .int .i64 0, .int .i64 0, .slice none 0 0, .int .i64 0]) ?_ rfl; (with_reducible repeat (first | refine blk_drewN ?_ _ | refine blk_drew ?_ | refine blk_alloc ?_ _)); refine blk_far ?_ NB294_295.out _; (with_reducible repeat (first | refine blk_drewN ?_ _ | refine blk_drew ?_ | refine blk_alloc ?_ _)); exact BK294.out) Try.underlying25 rfl (by kernel_rfl)) rfl ?_
          exact ⟨_, _, by first | rfl | (simp [errW_none, errW_some] <;> rfl) | (simp [*, errW_none, errW_some] <;> rfl), by first | exact Kd.R_nil _ _ _ _ _ | exact Kd.N_nil _ _ _ _ _ | exact Kd.V_nil _ _ _ _ _ | exact Kd.Q_nil _ _ _ _ _ | exact Kd.S_nil _ _ _ _ _, by first | exact Kd.R_nil _ _ _ _ _ | exact Kd.N_nil _ _ _ _ _ | exact Kd.V_nil _ _ _ _ _ | exact Kd.Q_nil _ _ _ _ _ | exact Kd.S_nil _ _ _ _ _, by repeat (first | (with_reducible first | exact HB.out | apply below_alloc | apply pw_below_drewN | apply below_drew1 | refine below_set ?_ GE294.out | refine below_set ?_ GE295.out) | exact HB.out)⟩)
       | (have _ := S1_
          refine bodyPost_ret (results_ct rfl _ _ gb294 25 #[.int .i64 a0, .int .i64 a1, .int .i64 1, .int .i64 0, .slice Aoq12 yq2.length coq12, .int .i64 0, .int .i64 0, .slice none 0 0, .int .i64 0] (0, 0) _ rfl (by (with_reducible repeat (first | refine blk_drewN ?_ _ | refine blk_drew ?_ | refine blk_alloc ?_ _)); refine put9 (cs := #[.int .i64 0, .int .i64 0, .int .i64 0, .int .i64 0, .slice none 0 0, .int .i64 0, .int .i64 0, .slice none 0 0, .int .i64 0]) ?_ rfl; (with_reducible repeat (first | refine blk_drewN ?_ _ | refine blk_drew ?_ | refine blk_alloc ?_ _)); exact BK294.out) Try.underlying25 rfl (by kernel_rfl)) rfl ?_
          exact ⟨_, _, by first | rfl | (simp [errW_none, errW_some] <;> rfl) | (simp [*, errW_none, errW_some] <;> rfl), by (with_reducible repeat (first | apply Kd.R_alloc | apply Kd.R_drewN | apply Kd.R_drew)); exact Kd.R_mono (Kd.R_far9 (g := gb294) (Kd.R_types HO298.out BK294.out (by decide)) (fun _ hk => hk.2)) (fun _ hk => trivial), by first | exact Kd.R_nil _ _ _ _ _ | exact Kd.N_nil _ _ _ _ _ | exact Kd.V_nil _ _ _ _ _ | exact Kd.Q_nil _ _ _ _ _ | exact Kd.S_nil _ _ _ _ _, by repeat (first | (with_reducible first | exact HB.out | apply below_alloc | apply pw_below_drewN | apply below_drew1 | refine below_set ?_ GE294.out | refine below_set ?_ GE295.out) | exact HB.out)⟩)
       | (have _ := S2_
          refine bodyPost_ret (results_ct rfl _ _ gb294 25 #[.int .i64 0, .int .i64 0, .int .i64 0, .int .i64 0, .slice none 0 0, .int .i64 0, .int .i64 0, .slice none 0 0, .int .i64 0] (0, 0) _ rfl (by (with_reducible repeat (first | refine blk_drewN ?_ _ | refine blk_drew ?_ | refine blk_alloc ?_ _)); refine put9 (cs := #[.int .i64 0, .int .i64 0, .int .i64 0, .int .i64 0, .slice none 0 0, .int .i64 0, .int .i64 0, .slice none 0 0, .int .i64 0]) ?_ rfl; (with_reducible repeat (first | refine blk_drewN ?_ _ | refine blk_drew ?_ | refine blk_alloc ?_ _)); exact BK294.out) Try.underlying25 rfl (by kernel_rfl)) rfl ?_
          exact ⟨_, _, by first | rfl | (simp [errW_none, errW_some] <;> rfl) | (simp [*, errW_none, errW_some] <;> rfl), by first | exact Kd.R_nil _ _ _ _ _ | exact Kd.N_nil _ _ _ _ _ | exact Kd.V_nil _ _ _ _ _ | exact Kd.Q_nil _ _ _ _ _ | exact Kd.S_nil _ _ _ _ _, by first | exact Kd.R_nil _ _ _ _ _ | exact Kd.N_nil _ _ _ _ _ | exact Kd.V_nil _ _ _ _ _ | exact Kd.Q_nil _ _ _ _ _ | exact Kd.S_nil _ _ _ _ _, by repeat (first | (with_reducible first | exact HB.out | apply below_alloc | apply pw_below_drewN | apply below_drew1 | refine below_set ?_ GE294.out | refine below_set ?_ GE295.out) | exact HB.out)⟩)
       | (have _ := S3_
          refine bodyPost_ret (results_ct rfl _ _ gb294 25 #[.int .i64 0, .int .i64 0, .int .i64 0, .int .i64 0, .slice none 0 0, .int .i64 0, .int .i64 0, .slice none 0 0, .int .i64 0] (0, 0) _ rfl (by (with_reducible repeat (first | refine blk_drewN ?_ _ | refine blk_drew ?_ | refine blk_alloc ?_ _)); refine put9 (cs := #[.int .i64 0, .int .i64 0, .int .i64 0, .int .i64 0, .slice none 0 0, .int .i64 0, .int .i64 0, .slice none 0 0, .int .i64 0]) ?_ rfl; (with_reducible repeat (first | refine blk_drewN ?_ _ | refine blk_drew ?_ | refine blk_alloc ?_ _)); refine far9 ?_ NB294_295.out; (with_reducible repeat (first | refine blk_drewN ?_ _ | refine blk_drew ?_ | refine blk_alloc ?_ _)); exact BK294.out) Try.underlying25 rfl (by kernel_rfl)) rfl ?_
          exact ⟨_, _, by first | rfl | (simp [errW_none, errW_some] <;> rfl) | (simp [*, errW_none, errW_some] <;> rfl), by first | exact Kd.R_nil _ _ _ _ _ | exact Kd.N_nil _ _ _ _ _ | exact Kd.V_nil _ _ _ _ _ | exact Kd.Q_nil _ _ _ _ _ | exact Kd.S_nil _ _ _ _ _, by first | exact Kd.R_nil _ _ _ _ _ | exact Kd.N_nil _ _ _ _ _ | exact Kd.V_nil _ _ _ _ _ | exact Kd.Q_nil _ _ _ _ _ | exact Kd.S_nil _ _ _ _ _, by repeat (first | (with_reducible first | exact HB.out | apply below_alloc | apply pw_below_drewN | apply below_drew1 | refine below_set ?_ GE294.out | refine below_set ?_ GE295.out) | exact HB.out)⟩)
       | (have _ := S4_
          refine bodyPost_ret (results_ct rfl _ _ gb294 25 #[.int .i64 a0, .int .i64 a1, .int .i64 1, .int .i64 0, .slice none 0 0, .int .i64 0, .int .i64 0, .slice none 0 0, .int .i64 0] (0, 0) _ rfl (by (with_reducible repeat (first | refine blk_drewN ?_ _ | refine blk_drew ?_ | refine blk_alloc ?_ _)); refine put9 (cs := #[.int .i64 0, .int .i64 0, .int .i64 0, .int .i64 0, .slice none 0 0, .int .i64 0, .int .i64 0, .slice none 0 0, .int .i64 0]) ?_ rfl; (with_reducible repeat (first | refine blk_drewN ?_ _ | refine blk_drew ?_ | refine blk_alloc ?_ _)); exact BK294.out) Try.underlying25 rfl (by kernel_rfl)) rfl ?_
          exact ⟨_, _, by first | rfl | (simp [errW_none, errW_some] <;> rfl) | (simp [*, errW_none, errW_some] <;> rfl), by first | exact Kd.R_nil _ _ _ _ _ | exact Kd.N_nil _ _ _ _ _ | exact Kd.V_nil _ _ _ _ _ | exact Kd.Q_nil _ _ _ _ _ | exact Kd.S_nil _ _ _ _ _, by first | exact Kd.R_nil _ _ _ _ _ | exact Kd.N_nil _ _ _ _ _ | exact Kd.V_nil _ _ _ _ _ | exact Kd.Q_nil _ _ _ _ _ | exact Kd.S_nil _ _ _ _ _, by repeat (first | (with_reducible first | exact HB.out | apply below_alloc | apply pw_below_drewN | apply below_drew1 | refine below_set ?_ GE294.out | refine below_set ?_ GE295.out) | exact HB.out)⟩)))

end Go.Proofs.Ytegdoodjajpnhaa.GCsa
