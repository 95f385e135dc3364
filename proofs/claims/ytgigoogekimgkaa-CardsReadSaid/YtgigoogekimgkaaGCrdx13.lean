/- printed for this claim by gprint.py, a program of this session, that drives the kit's printer. -/
import Derived.Test.YtgigoogekimgkaaGCrdx0
import Derived.Test.YtgigoogekimgkaaZ
namespace Go.Proofs.Ytgigoogekimgkaa.GCrd
open Go.RowKit Go.Proofs.YtgigoogekimgkaaW.PrintWords Go.Proofs.YtgigoogekimgkaaW.PrintLast Go.Proofs.YtgigoogekimgkaaW.PrintMore
attribute [local go_sem] max2_int min2_int max_two min_two max_three min_three max_four min_four   -- for this text's walks alone
set_option linter.unusedVariables false
set_option linter.unusedSimpArgs false

/-! ### r4_Right: function 34 -/
mutual
def r4_Right.l0 : Nat → List (S48) → Int → Option (Bool)
 | 0, _, _ => none
 | k + 1, x0, x3 => if x3 < (x0.length : Int) then (if 0 ≤ x3 then (if ((rd_T48 x0 x3).f0) < 0 then (r4_Right.j1 k x0 x3 true ((rd_T48 x0 x3).f0) ((rd_T48 x0 x3).f1) ((rd_T48 x0 x3).f2)) else (if ((rd_T48 x0 x3).f0) ≥ 65536 then (r4_Right.j1 k x0 x3 true ((rd_T48 x0 x3).f0) ((rd_T48 x0 x3).f1) ((rd_T48 x0 x3).f2)) else (if ((rd_T48 x0 x3).f1) < 1 then (r4_Right.j1 k x0 x3 true ((rd_T48 x0 x3).f0) ((rd_T48 x0 x3).f1) ((rd_T48 x0 x3).f2)) else (if ((rd_T48 x0 x3).f1) ≥ 65536 then (r4_Right.j1 k x0 x3 true ((rd_T48 x0 x3).f0) ((rd_T48 x0 x3).f1) ((rd_T48 x0 x3).f2)) else (if ((rd_T48 x0 x3).f2) < 1 then (r4_Right.j1 k x0 x3 true ((rd_T48 x0 x3).f0) ((rd_T48 x0 x3).f1) ((rd_T48 x0 x3).f2)) else (if ((rd_T48 x0 x3).f2) ≥ 65536 then (r4_Right.j1 k x0 x3 true ((rd_T48 x0 x3).f0) ((rd_T48 x0 x3).f1) ((rd_T48 x0 x3).f2)) else (if (wrap64 (((rd_T48 x0 x3).f0) + ((rd_T48 x0 x3).f2))) > 65536 then (r4_Right.j1 k x0 x3 true ((rd_T48 x0 x3).f0) ((rd_T48 x0 x3).f1) ((rd_T48 x0 x3).f2)) else (r4_Right.j1 k x0 x3 (decide ((wrap64 (((rd_T48 x0 x3).f1) + ((rd_T48 x0 x3).f2))) > 65536)) ((rd_T48 x0 x3).f0) ((rd_T48 x0 x3).f1) ((rd_T48 x0 x3).f2))))))))) else (none)) else (some true)
def r4_Right.j1 : Nat → List (S48) → Int → Bool → Int → Int → Int → Option (Bool)
 | 0, _, _, _, _, _, _ => none
 | k + 1, x0, x3, x59, x334000, x334001, x334002 => if x59 = true then (some false) else (if x3 = 0 then (r4_Right.l0 k x0 (wrap64 (x3 + 1))) else (if 0 ≤ (wrap64 (x3 - 1)) then (if (wrap64 (x3 - 1)) < (x0.length : Int) then (if x334000 < (wrap64 (((rd_T48 x0 (wrap64 (x3 - 1))).f0) + ((rd_T48 x0 (wrap64 (x3 - 1))).f2))) then (some false) else (if x334000 = (wrap64 (((rd_T48 x0 (wrap64 (x3 - 1))).f0) + ((rd_T48 x0 (wrap64 (x3 - 1))).f2))) then (if x334001 = (wrap64 (((rd_T48 x0 (wrap64 (x3 - 1))).f1) + ((rd_T48 x0 (wrap64 (x3 - 1))).f2))) then (some false) else (r4_Right.l0 k x0 (wrap64 (x3 + 1)))) else (r4_Right.l0 k x0 (wrap64 (x3 + 1))))) else (none)) else (none)))
end
def r4_Right.f (k : Nat) (l0 : List (S48)) : Option (Bool) := r4_Right.l0 k l0 0
theorem r4_Right.mono_l : ∀ k, (∀ y0 y1, LeO (r4_Right.l0 k y0 y1) (r4_Right.l0 (k + 1) y0 y1)) ∧ (∀ y0 y1 y2 y3 y4 y5, LeO (r4_Right.j1 k y0 y1 y2 y3 y4 y5) (r4_Right.j1 (k + 1) y0 y1 y2 y3 y4 y5))
 | 0 => ⟨fun _ _ r h => by simp [r4_Right.l0] at h, fun _ _ _ _ _ _ r h => by simp [r4_Right.j1] at h⟩
 | k + 1 => by
   obtain ⟨ih0, ih1⟩ := r4_Right.mono_l k
   refine ⟨?_, ?_⟩
   · intro y0 y1
     unfold r4_Right.l0
     repeat' first
     | (with_reducible exact ih0 _ _)
     | (with_reducible exact ih1 _ _ _ _ _ _)
     | (with_reducible exact LeO.refl _)
     | (with_reducible exact LeO.none _)
     | (with_reducible refine LeO.ite ?_ ?_)
     | (with_reducible refine LeO.bind ?_ (fun _ => ?_))
     | exact ih0 _ _
     | exact ih1 _ _ _ _ _ _
     | exact LeO.none _
     | refine LeO.ite ?_ ?_
     | refine LeO.bind ?_ (fun _ => ?_)
   · intro y0 y1 y2 y3 y4 y5
     unfold r4_Right.j1
     repeat' first
     | (with_reducible exact ih0 _ _)
     | (with_reducible exact ih1 _ _ _ _ _ _)
     | (with_reducible exact LeO.refl _)
     | (with_reducible exact LeO.none _)
     | (with_reducible refine LeO.ite ?_ ?_)
     | (with_reducible refine LeO.bind ?_ (fun _ => ?_))
     | exact ih0 _ _
     | exact ih1 _ _ _ _ _ _
     | exact LeO.none _
     | refine LeO.ite ?_ ?_
     | refine LeO.bind ?_ (fun _ => ?_)
theorem r4_Right.mono : ∀ a0 k, LeO (r4_Right.f k a0) (r4_Right.f (k + 1) a0) := by
 intro a0 k
 obtain ⟨ih0, ih1⟩ := r4_Right.mono_l k
 unfold r4_Right.f
 repeat' first
  | (with_reducible exact ih0 _ _)
  | (with_reducible exact ih1 _ _ _ _ _ _)
  | (with_reducible exact LeO.refl _)
  | (with_reducible exact LeO.none _)
  | (with_reducible refine LeO.ite ?_ ?_)
  | (with_reducible refine LeO.bind ?_ (fun _ => ?_))
  | exact ih0 _ _
  | exact ih1 _ _ _ _ _ _
  | exact LeO.none _
  | refine LeO.ite ?_ ?_
  | refine LeO.bind ?_ (fun _ => ?_)
set_option maxHeartbeats 8000000 in
set_option maxRecDepth 100000 in
theorem r4_Right.calls (k : Nat) (A0 : Option Addr) (c0 : Nat) (l0 : List (S48)) (r : Bool) (w : World) (hr0 : Kd.C k48 w A0 l0.length l0) (hc0 : l0.length ≤ c0) (h : r4_Right.f k l0 = some r) :
 Calls Try.prog 34 #[.slice A0 l0.length c0] w fun e w' => e = .returned (.bool r) ∧ Below w.heap.size w w' := by
 have hu48 := Try.underlying48
 have HR0 := Aside0.mk hr0
 have HC0 := Aside0.mk hc0
 clear hr0 hc0
 have HB := Aside0.mk (Below.refl w.heap.size w)
 have H : (r4_Right.l0 k l0 0) = some r := h
 clear h
 have H' := Aside0.mk H
 clear H
 go_enter Try.func34, Try.ntmps34
 go_wp2
 go_loopg [3] k (fun kq v3 w' => ∃ (x3_1 : Int), v3 = .int .i64 x3_1 ∧ Aside0 (r4_Right.l0 kq l0 x3_1 = some r) ∧ Aside0 (kq ≤ k) ∧ Aside0 (Below w.heap.size w w'))
 case atStart => exact ⟨(0), (zs), H', ⟨Nat.le_refl _⟩, ⟨zh0 HB.out⟩⟩
 case round =>
  clear H'
  obtain ⟨x3_1, rfl, HA, HK1, HB⟩ := hrel
  cases gk with
  | zero => exact absurd HA.out (by simp [r4_Right.l0])
  | succ k1 =>
    have H := HA.out
    clear HA
    simp only [r4_Right.l0] at H
    by_cases c2 : x3_1 < (l0.length : Int)
    · rw [if_pos c2] at H
      have c2b0 : decide (x3_1 < (l0.length : Int)) = true := decide_eq_true c2
      clear c2
      by_cases c3 : 0 ≤ x3_1
      · rw [if_pos c3] at H
        have c3b0 : decide (0 ≤ x3_1) = true := decide_eq_true c3
        clear c3
        have HC4 := Aside0.mk H
        clear H
        have p332 : 0 ≤ (x3_1 : Int) := zd
        have q332 : x3_1 < (l0.length : Int) := zd
        obtain ⟨ad332, e332, hx332_0, hx332_1, hx332_2⟩ := at_T48 HR0.out x3_1 p332 q332
        cases e332
        replace hx332_0 := pw_cell_below HB.out hx332_0
        replace hx332_1 := pw_cell_below HB.out hx332_1
        replace hx332_2 := pw_cell_below HB.out hx332_2
        replace p332 := eq_true p332
        replace q332 := eq_true q332
        go_upto_region 5 with (first | ((with_reducible refine gate_dst (N := 4) rfl ?_); refine zbx (N := 4) (cs := #[.int .i64 0, .int .i64 0, .int .i64 0]) (t := 48) ?_; intro gb333 hg w5 hbox hb; have BK333 := Aside0.mk (hbox); have GW333 := Aside0.mk ((by rw [hg]; exact (below_size (zh0 HB.out)) : w.heap.size ≤ gb333)); have GE333 := GW333; replace HB := Aside0.mk (below_step (zh0 HB.out) hb); clear hb hbox hg; obtain ⟨hcz6_0, hcz6_1, hcz6_2⟩ := cells3 BK333.out; have hfz6_0 := blk_frozen BK333.out 0; have hfz6_1 := blk_frozen BK333.out 1; have hfz6_2 := blk_frozen BK333.out 2))
        (try simp only [Act.put, List.setIfInBounds_toArray, List.set_cons_zero, List.set_cons_succ])
        go_cut [59] (fun v59 wc => ∃ (kq : Nat) (x59_3 : Bool), v59 = .bool x59_3 ∧ Aside0 (r4_Right.j1 kq l0 x3_1 x59_3 ((rd_T48 l0 x3_1).f0) ((rd_T48 l0 x3_1).f1) ((rd_T48 l0 x3_1).f2) = some r) ∧ Aside0 (kq ≤ k1) ∧ Aside0 (wc.heap[gb333]? = some (.cells #[.int .i64 ((rd_T48 l0 x3_1).f0), .int .i64 ((rd_T48 l0 x3_1).f1), .int .i64 ((rd_T48 l0 x3_1).f2)] 48 (0, 0))) ∧ Aside0 (Below w.heap.size w wc))
        case first =>
         have H := HC4.out
         clear HC4
         by_cases c7 : ((rd_T48 l0 x3_1).f0) < 0
         all_goals (first
          | (skip
             rw [if_pos c7] at H
             have c7b0 : decide (((rd_T48 l0 x3_1).f0) < 0) = true := decide_eq_true c7
             clear c7
             (first | rw [c7b0] | (simp only [i64_w, i32_w]; rw [c7b0]) | skip)
             have H' := Aside0.mk H
             clear H
             have hcz8_0 : w5.cell? ⟨gb333, 0, none⟩ = some (.int .i64 0) := (blk_cell BK333.out 0).trans rfl
             have hcz8_1 : w5.cell? ⟨gb333, 1, none⟩ = some (.int .i64 0) := (blk_cell BK333.out 1).trans rfl
             have hcz8_2 : w5.cell? ⟨gb333, 2, none⟩ = some (.int .i64 0) := (blk_cell BK333.out 2).trans rfl
             have hfz8_0 := blk_frozen BK333.out 0
             have hfz8_1 := blk_frozen BK333.out 1
             have hfz8_2 := blk_frozen BK333.out 2
             have C0_ : True := trivial
             have S0_ : True := trivial)
          | (skip
             rw [if_neg c7] at H
             have c7b0 : decide (((rd_T48 l0 x3_1).f0) < 0) = false := decide_eq_false c7
             clear c7
             (first | rw [c7b0] | (simp only [i64_w, i32_w]; rw [c7b0]) | skip)
             by_cases c9 : ((rd_T48 l0 x3_1).f0) ≥ 65536
             all_goals (first
              | (skip
                 rw [if_pos c9] at H
                 have c9b0 : decide (65536 ≤ ((rd_T48 l0 x3_1).f0)) = true := decide_eq_true c9
                 clear c9
                 have H' := Aside0.mk H
                 clear H
                 have hcz10_0 : w5.cell? ⟨gb333, 0, none⟩ = some (.int .i64 0) := (blk_cell BK333.out 0).trans rfl
                 have hcz10_1 : w5.cell? ⟨gb333, 1, none⟩ = some (.int .i64 0) := (blk_cell BK333.out 1).trans rfl
                 have hcz10_2 : w5.cell? ⟨gb333, 2, none⟩ = some (.int .i64 0) := (blk_cell BK333.out 2).trans rfl
                 have hfz10_0 := blk_frozen BK333.out 0
                 have hfz10_1 := blk_frozen BK333.out 1
                 have hfz10_2 := blk_frozen BK333.out 2
                 have C0_ : True := trivial
                 have S0_ : True := trivial)
              | (skip
                 rw [if_neg c9] at H
                 have c9b0 : decide (65536 ≤ ((rd_T48 l0 x3_1).f0)) = false := decide_eq_false c9
                 clear c9
                 by_cases c11 : ((rd_T48 l0 x3_1).f1) < 1
                 all_goals (first
                  | (skip
                     rw [if_pos c11] at H
                     have c11b0 : decide (((rd_T48 l0 x3_1).f1) < 1) = true := decide_eq_true c11
                     clear c11
                     have H' := Aside0.mk H
                     clear H
                     have hcz12_0 : w5.cell? ⟨gb333, 0, none⟩ = some (.int .i64 0) := (blk_cell BK333.out 0).trans rfl
                     have hcz12_1 : w5.cell? ⟨gb333, 1, none⟩ = some (.int .i64 0) := (blk_cell BK333.out 1).trans rfl
                     have hcz12_2 : w5.cell? ⟨gb333, 2, none⟩ = some (.int .i64 0) := (blk_cell BK333.out 2).trans rfl
                     have hfz12_0 := blk_frozen BK333.out 0
                     have hfz12_1 := blk_frozen BK333.out 1
                     have hfz12_2 := blk_frozen BK333.out 2
                     have C0_ : True := trivial
                     have S0_ : True := trivial)
                  | (skip
                     rw [if_neg c11] at H
                     have c11b0 : decide (((rd_T48 l0 x3_1).f1) < 1) = false := decide_eq_false c11
                     clear c11
                     by_cases c13 : ((rd_T48 l0 x3_1).f1) ≥ 65536
                     all_goals (first
                      | (skip
                         rw [if_pos c13] at H
                         have c13b0 : decide (65536 ≤ ((rd_T48 l0 x3_1).f1)) = true := decide_eq_true c13
                         clear c13
                         have H' := Aside0.mk H
                         clear H
                         have hcz14_0 : w5.cell? ⟨gb333, 0, none⟩ = some (.int .i64 0) := (blk_cell BK333.out 0).trans rfl
                         have hcz14_1 : w5.cell? ⟨gb333, 1, none⟩ = some (.int .i64 0) := (blk_cell BK333.out 1).trans rfl
                         have hcz14_2 : w5.cell? ⟨gb333, 2, none⟩ = some (.int .i64 0) := (blk_cell BK333.out 2).trans rfl
                         have hfz14_0 := blk_frozen BK333.out 0
                         have hfz14_1 := blk_frozen BK333.out 1
                         have hfz14_2 := blk_frozen BK333.out 2
                         have C0_ : True := trivial
                         have S0_ : True := trivial)
                      | (skip
                         rw [if_neg c13] at H
                         have c13b0 : decide (65536 ≤ ((rd_T48 l0 x3_1).f1)) = false := decide_eq_false c13
                         clear c13
                         by_cases c15 : ((rd_T48 l0 x3_1).f2) < 1
                         all_goals (first
                          | (skip
                             rw [if_pos c15] at H
                             have c15b0 : decide (((rd_T48 l0 x3_1).f2) < 1) = true := decide_eq_true c15
                             clear c15
                             have H' := Aside0.mk H
                             clear H
                             have hcz16_0 : w5.cell? ⟨gb333, 0, none⟩ = some (.int .i64 0) := (blk_cell BK333.out 0).trans rfl
                             have hcz16_1 : w5.cell? ⟨gb333, 1, none⟩ = some (.int .i64 0) := (blk_cell BK333.out 1).trans rfl
                             have hcz16_2 : w5.cell? ⟨gb333, 2, none⟩ = some (.int .i64 0) := (blk_cell BK333.out 2).trans rfl
                             have hfz16_0 := blk_frozen BK333.out 0
                             have hfz16_1 := blk_frozen BK333.out 1
                             have hfz16_2 := blk_frozen BK333.out 2
                             have C0_ : True := trivial
                             have S0_ : True := trivial)
                          | (skip
                             rw [if_neg c15] at H
                             have c15b0 : decide (((rd_T48 l0 x3_1).f2) < 1) = false := decide_eq_false c15
                             clear c15
                             by_cases c17 : ((rd_T48 l0 x3_1).f2) ≥ 65536
                             all_goals (first
                              | (skip
                                 rw [if_pos c17] at H
                                 have c17b0 : decide (65536 ≤ ((rd_T48 l0 x3_1).f2)) = true := decide_eq_true c17
                                 clear c17
                                 have H' := Aside0.mk H
                                 clear H
                                 have hcz18_0 : w5.cell? ⟨gb333, 0, none⟩ = some (.int .i64 0) := (blk_cell BK333.out 0).trans rfl
                                 have hcz18_1 : w5.cell? ⟨gb333, 1, none⟩ = some (.int .i64 0) := (blk_cell BK333.out 1).trans rfl
                                 have hcz18_2 : w5.cell? ⟨gb333, 2, none⟩ = some (.int .i64 0) := (blk_cell BK333.out 2).trans rfl
                                 have hfz18_0 := blk_frozen BK333.out 0
                                 have hfz18_1 := blk_frozen BK333.out 1
                                 have hfz18_2 := blk_frozen BK333.out 2
                                 have C0_ : True := trivial
                                 have S0_ : True := trivial)
                              | (skip
                                 rw [if_neg c17] at H
                                 have c17b0 : decide (65536 ≤ ((rd_T48 l0 x3_1).f2)) = false := decide_eq_false c17
                                 clear c17
                                 by_cases c19 : (wrap64 (((rd_T48 l0 x3_1).f0) + ((rd_T48 l0 x3_1).f2))) > 65536
                                 all_goals (first
                                  | (skip
                                     rw [if_pos c19] at H
                                     have c19b0 : decide (65536 < (wrap64 (((rd_T48 l0 x3_1).f0) + ((rd_T48 l0 x3_1).f2)))) = true := decide_eq_true c19
                                     clear c19
                                     have H' := Aside0.mk H
                                     clear H
                                     have hcz20_0 : w5.cell? ⟨gb333, 0, none⟩ = some (.int .i64 0) := (blk_cell BK333.out 0).trans rfl
                                     have hcz20_1 : w5.cell? ⟨gb333, 1, none⟩ = some (.int .i64 0) := (blk_cell BK333.out 1).trans rfl
                                     have hcz20_2 : w5.cell? ⟨gb333, 2, none⟩ = some (.int .i64 0) := (blk_cell BK333.out 2).trans rfl
                                     have hfz20_0 := blk_frozen BK333.out 0
                                     have hfz20_1 := blk_frozen BK333.out 1
                                     have hfz20_2 := blk_frozen BK333.out 2
                                     have C0_ : True := trivial
                                     have S0_ : True := trivial)
                                  | (skip
                                     rw [if_neg c19] at H
                                     have c19b0 : decide (65536 < (wrap64 (((rd_T48 l0 x3_1).f0) + ((rd_T48 l0 x3_1).f2)))) = false := decide_eq_false c19
                                     clear c19
                                     have H' := Aside0.mk H
                                     clear H
                                     have hcz21_0 : w5.cell? ⟨gb333, 0, none⟩ = some (.int .i64 0) := (blk_cell BK333.out 0).trans rfl
                                     have hcz21_1 : w5.cell? ⟨gb333, 1, none⟩ = some (.int .i64 0) := (blk_cell BK333.out 1).trans rfl
                                     have hcz21_2 : w5.cell? ⟨gb333, 2, none⟩ = some (.int .i64 0) := (blk_cell BK333.out 2).trans rfl
                                     have hfz21_0 := blk_frozen BK333.out 0
                                     have hfz21_1 := blk_frozen BK333.out 1
                                     have hfz21_2 := blk_frozen BK333.out 2
                                     have C0_ : True := trivial
                                     have S1_ : True := trivial))))))))))))))
         all_goals (
          first
          | (have _ := C0_
             go_wp2
             first
             | (have _ := S0_
                go_meet
                case rel => exact ⟨_, (true), (zs), H', ⟨by have := HK1.out; first | omega | exact Nat.le_refl _⟩, ⟨by (with_reducible repeat (first | refine blk_drewN ?_ _ | refine blk_drew ?_ | refine blk_alloc ?_ _)); refine blk_put (cs := #[.int .i64 ((rd_T48 l0 x3_1).f0), .int .i64 ((rd_T48 l0 x3_1).f1), .int .i64 0]) ?_ 2 _ rfl; (with_reducible repeat (first | refine blk_drewN ?_ _ | refine blk_drew ?_ | refine blk_alloc ?_ _)); refine blk_put (cs := #[.int .i64 ((rd_T48 l0 x3_1).f0), .int .i64 0, .int .i64 0]) ?_ 1 _ rfl; (with_reducible repeat (first | refine blk_drewN ?_ _ | refine blk_drew ?_ | refine blk_alloc ?_ _)); refine blk_put (cs := #[.int .i64 0, .int .i64 0, .int .i64 0]) ?_ 0 _ rfl; (with_reducible repeat (first | refine blk_drewN ?_ _ | refine blk_drew ?_ | refine blk_alloc ?_ _)); exact BK333.out⟩, ⟨zh1 HB.out GE333.out⟩⟩)
             | (have _ := S1_
                go_meet
                case rel => exact ⟨_, (decide ((wrap64 (((rd_T48 l0 x3_1).f1) + ((rd_T48 l0 x3_1).f2))) > 65536)), (zs), H', ⟨by have := HK1.out; first | omega | exact Nat.le_refl _⟩, ⟨by (with_reducible repeat (first | refine blk_drewN ?_ _ | refine blk_drew ?_ | refine blk_alloc ?_ _)); refine blk_put (cs := #[.int .i64 ((rd_T48 l0 x3_1).f0), .int .i64 ((rd_T48 l0 x3_1).f1), .int .i64 0]) ?_ 2 _ rfl; (with_reducible repeat (first | refine blk_drewN ?_ _ | refine blk_drew ?_ | refine blk_alloc ?_ _)); refine blk_put (cs := #[.int .i64 ((rd_T48 l0 x3_1).f0), .int .i64 0, .int .i64 0]) ?_ 1 _ rfl; (with_reducible repeat (first | refine blk_drewN ?_ _ | refine blk_drew ?_ | refine blk_alloc ?_ _)); refine blk_put (cs := #[.int .i64 0, .int .i64 0, .int .i64 0]) ?_ 0 _ rfl; (with_reducible repeat (first | refine blk_drewN ?_ _ | refine blk_drew ?_ | refine blk_alloc ?_ _)); exact BK333.out⟩, ⟨zh1 HB.out GE333.out⟩⟩)))
        case rest =>
         clear HC4; (try clear c1)
         (try clear c2); (try clear c2b0)
         (try clear p2); (try clear c3)
         (try clear c3b0); (try clear p3)
         (try clear q3); (try clear hx3)
         (try clear p6); (try clear c7)
         (try clear c7b0); (try clear c9)
         (try clear c9b0); (try clear c11)
         (try clear c11b0); (try clear c13)
         (try clear c13b0); (try clear c15)
         (try clear c15b0); (try clear c17)
         (try clear c17b0); (try clear c19)
         (try clear c19b0); (try clear hcz10_0)
         (try clear hcz10_1); (try clear hcz10_2)
         (try clear hcz12_0); (try clear hcz12_1)
         (try clear hcz12_2); (try clear hcz14_0)
         (try clear hcz14_1); (try clear hcz14_2)
         (try clear hcz16_0); (try clear hcz16_1)
         (try clear hcz16_2); (try clear hcz18_0)
         (try clear hcz18_1); (try clear hcz18_2)
         (try clear hcz20_0); (try clear hcz20_1)
         (try clear hcz20_2); (try clear hcz21_0)
         (try clear hcz21_1); (try clear hcz21_2)
         (try clear hcz6_0); (try clear hcz6_1)
         (try clear hcz6_2); (try clear hcz8_0)
         (try clear hcz8_1); (try clear hcz8_2)
         (try clear hfz10_0); (try clear hfz10_1)
         (try clear hfz10_2); (try clear hfz12_0)
         (try clear hfz12_1); (try clear hfz12_2)
         (try clear hfz14_0); (try clear hfz14_1)
         (try clear hfz14_2); (try clear hfz16_0)
         (try clear hfz16_1); (try clear hfz16_2)
         (try clear hfz18_0); (try clear hfz18_1)
         (try clear hfz18_2); (try clear hfz20_0)
         (try clear hfz20_1); (try clear hfz20_2)
         (try clear hfz21_0); (try clear hfz21_1)
         (try clear hfz21_2); (try clear hfz6_0)
         (try clear hfz6_1); (try clear hfz6_2)
         (try clear hfz8_0); (try clear hfz8_1)
         (try clear hfz8_2); (try clear hx332_0)
         (try clear hx332_1); (try clear hx332_2)
         (try clear p332); (try clear q332)
         obtain ⟨kq, x59_3, rfl, HA, HJ3, BK333, HB⟩ := hcut
         cases kq with
         | zero => exact absurd HA.out (by simp [r4_Right.j1])
         | succ kj3 =>
           have H := HA.out
           clear HA
           simp only [r4_Right.j1] at H
           by_cases c22 : x59_3 = true
           all_goals (first
            | (skip
               subst c22
               rw [if_pos rfl] at H
               obtain rfl := Option.some.inj H
               have C0_ : True := trivial
               have S0_ : True := trivial)
            | (skip
               replace c22 := Bool.eq_false_iff.mpr c22
               subst c22
               rw [if_neg (show ¬ (false = true) by decide)] at H
               by_cases c23 : x3_1 = 0
               all_goals (first
                | (skip
                   rw [if_pos c23] at H
                   have c23b0 : (x3_1 == 0) = true := beq_iff_eq.mpr c23
                   have c23b1 : (x3_1 != 0) = false := bne_eq_false_iff_eq.mpr c23
                   clear c23
                   have H' := Aside0.mk H
                   clear H
                   have C0_ : True := trivial
                   have S1_ : True := trivial)
                | (skip
                   rw [if_neg c23] at H
                   have c23b0 : (x3_1 == 0) = false := beq_eq_false_iff_ne.mpr c23
                   have c23b1 : (x3_1 != 0) = true := bne_iff_ne.mpr c23
                   obtain ⟨ji24, hji24⟩ : ∃ j_ : Int, (wrap64 (x3_1 - 1)) = j_ := ⟨_, rfl⟩
                   replace H : (if 0 ≤ (ji24) then (if (ji24) < (l0.length : Int) then (if ((rd_T48 l0 x3_1).f0) < (wrap64 (((rd_T48 l0 (ji24)).f0) + ((rd_T48 l0 (ji24)).f2))) then (some false) else (if ((rd_T48 l0 x3_1).f0) = (wrap64 (((rd_T48 l0 (ji24)).f0) + ((rd_T48 l0 (ji24)).f2))) then (if ((rd_T48 l0 x3_1).f1) = (wrap64 (((rd_T48 l0 (ji24)).f1) + ((rd_T48 l0 (ji24)).f2))) then (some false) else (r4_Right.l0 kj3 l0 (wrap64 (x3_1 + 1)))) else (r4_Right.l0 kj3 l0 (wrap64 (x3_1 + 1))))) else (none)) else (none)) = some r := by first | (rw [hji24] at H; exact H) | (simp only [hji24] at H ⊢; exact H)
                   have hji24w : (IntKind.i64.wrap (x3_1 - 1)) = ji24 := (i64_w _).trans hji24
                   by_cases c25 : 0 ≤ (ji24)
                   all_goals (first
                    | (skip
                       rw [if_pos c25] at H
                       have c25b0 : decide (0 ≤ (ji24)) = true := decide_eq_true c25
                       clear c25
                       by_cases c26 : (ji24) < (l0.length : Int)
                       all_goals (first
                        | (skip
                           rw [if_pos c26] at H
                           have c26b0 : decide ((ji24) < (l0.length : Int)) = true := decide_eq_true c26
                           clear c26
                           by_cases c27 : ((rd_T48 l0 x3_1).f0) < (wrap64 (((rd_T48 l0 (ji24)).f0) + ((rd_T48 l0 (ji24)).f2)))
                           all_goals (first
                            | (skip
                               rw [if_pos c27] at H
                               have c27b0 : decide (((rd_T48 l0 x3_1).f0) < (wrap64 (((rd_T48 l0 (ji24)).f0) + ((rd_T48 l0 (ji24)).f2)))) = true := decide_eq_true c27
                               clear c27
                               obtain rfl := Option.some.inj H
                               have p334 : 0 ≤ ((ji24) : Int) := zd
                               have q334 : (ji24) < (l0.length : Int) := zd
                               obtain ⟨ad334, e334, hx334_0, hx334_1, hx334_2⟩ := at_T48 HR0.out (ji24) p334 q334
                               obtain rfl : ad332 = ad334 := (by injection e334)
                               replace hx334_0 := pw_cell_below HB.out hx334_0
                               replace hx334_1 := pw_cell_below HB.out hx334_1
                               replace hx334_2 := pw_cell_below HB.out hx334_2
                               replace p334 := eq_true p334
                               replace q334 := eq_true q334
                               have C0_ : True := trivial
                               have S2_ : True := trivial)
                            | (skip
                               rw [if_neg c27] at H
                               have c27b0 : decide (((rd_T48 l0 x3_1).f0) < (wrap64 (((rd_T48 l0 (ji24)).f0) + ((rd_T48 l0 (ji24)).f2)))) = false := decide_eq_false c27
                               clear c27
                               by_cases c32 : ((rd_T48 l0 x3_1).f0) = (wrap64 (((rd_T48 l0 (ji24)).f0) + ((rd_T48 l0 (ji24)).f2)))
                               all_goals (first
                                | (skip
                                   rw [if_pos c32] at H
                                   have c32b0 : (((rd_T48 l0 x3_1).f0) == (wrap64 (((rd_T48 l0 (ji24)).f0) + ((rd_T48 l0 (ji24)).f2)))) = true := beq_iff_eq.mpr c32
                                   have c32b1 : (((rd_T48 l0 x3_1).f0) != (wrap64 (((rd_T48 l0 (ji24)).f0) + ((rd_T48 l0 (ji24)).f2)))) = false := bne_eq_false_iff_eq.mpr c32
                                   clear c32
                                   by_cases c33 : ((rd_T48 l0 x3_1).f1) = (wrap64 (((rd_T48 l0 (ji24)).f1) + ((rd_T48 l0 (ji24)).f2)))
                                   all_goals (first
                                    | (skip
                                       rw [if_pos c33] at H
                                       have c33b0 : (((rd_T48 l0 x3_1).f1) == (wrap64 (((rd_T48 l0 (ji24)).f1) + ((rd_T48 l0 (ji24)).f2)))) = true := beq_iff_eq.mpr c33
                                       have c33b1 : (((rd_T48 l0 x3_1).f1) != (wrap64 (((rd_T48 l0 (ji24)).f1) + ((rd_T48 l0 (ji24)).f2)))) = false := bne_eq_false_iff_eq.mpr c33
                                       clear c33
                                       obtain rfl := Option.some.inj H
                                       have p334 : 0 ≤ ((ji24) : Int) := zd
                                       have q334 : (ji24) < (l0.length : Int) := zd
                                       obtain ⟨ad334, e334, hx334_0, hx334_1, hx334_2⟩ := at_T48 HR0.out (ji24) p334 q334
                                       obtain rfl : ad332 = ad334 := (by injection e334)
                                       replace hx334_0 := pw_cell_below HB.out hx334_0
                                       replace hx334_1 := pw_cell_below HB.out hx334_1
                                       replace hx334_2 := pw_cell_below HB.out hx334_2
                                       replace p334 := eq_true p334
                                       replace q334 := eq_true q334
                                       have C0_ : True := trivial
                                       have S2_ : True := trivial)
                                    | (skip
                                       rw [if_neg c33] at H
                                       have c33b0 : (((rd_T48 l0 x3_1).f1) == (wrap64 (((rd_T48 l0 (ji24)).f1) + ((rd_T48 l0 (ji24)).f2)))) = false := beq_eq_false_iff_ne.mpr c33
                                       have c33b1 : (((rd_T48 l0 x3_1).f1) != (wrap64 (((rd_T48 l0 (ji24)).f1) + ((rd_T48 l0 (ji24)).f2)))) = true := bne_iff_ne.mpr c33
                                       have H' := Aside0.mk H
                                       clear H
                                       have p334 : 0 ≤ ((ji24) : Int) := zd
                                       have q334 : (ji24) < (l0.length : Int) := zd
                                       obtain ⟨ad334, e334, hx334_0, hx334_1, hx334_2⟩ := at_T48 HR0.out (ji24) p334 q334
                                       obtain rfl : ad332 = ad334 := (by injection e334)
                                       replace hx334_0 := pw_cell_below HB.out hx334_0
                                       replace hx334_1 := pw_cell_below HB.out hx334_1
                                       replace hx334_2 := pw_cell_below HB.out hx334_2
                                       replace p334 := eq_true p334
                                       replace q334 := eq_true q334
                                       have C0_ : True := trivial
                                       have S3_ : True := trivial)))
                                | (skip
                                   rw [if_neg c32] at H
                                   have c32b0 : (((rd_T48 l0 x3_1).f0) == (wrap64 (((rd_T48 l0 (ji24)).f0) + ((rd_T48 l0 (ji24)).f2)))) = false := beq_eq_false_iff_ne.mpr c32
                                   have c32b1 : (((rd_T48 l0 x3_1).f0) != (wrap64 (((rd_T48 l0 (ji24)).f0) + ((rd_T48 l0 (ji24)).f2)))) = true := bne_iff_ne.mpr c32
                                   have H' := Aside0.mk H
                                   clear H
                                   have p334 : 0 ≤ ((ji24) : Int) := zd
                                   have q334 : (ji24) < (l0.length : Int) := zd
                                   obtain ⟨ad334, e334, hx334_0, hx334_1, hx334_2⟩ := at_T48 HR0.out (ji24) p334 q334
                                   obtain rfl : ad332 = ad334 := (by injection e334)
                                   replace hx334_0 := pw_cell_below HB.out hx334_0
                                   replace hx334_1 := pw_cell_below HB.out hx334_1
                                   replace hx334_2 := pw_cell_below HB.out hx334_2
                                   replace p334 := eq_true p334
                                   replace q334 := eq_true q334
                                   have C0_ : True := trivial
                                   have S3_ : True := trivial)))))
                        | (skip
                           rw [if_neg c26] at H
                           exact absurd H (by simp))))
                    | (skip
                       rw [if_neg c25] at H
                       exact absurd H (by simp)))))))
           all_goals (
            first
            | (have _ := C0_
               go_wp2_with (first | ((with_reducible refine gate_dst (N := 5) rfl ?_); refine zbx (N := 5) (cs := #[.int .i64 0, .int .i64 0, .int .i64 0]) (t := 48) ?_; intro gb335 hg wq5 hbox hb; have BK335 := Aside0.mk (hbox); have GW335 := Aside0.mk ((by rw [hg]; exact (below_size (zh1 HB.out GE333.out)) : w.heap.size ≤ gb335)); have GE335 := GW335; replace HB := Aside0.mk (below_step (zh1 HB.out GE333.out) hb); have NB333_335 := Aside0.mk ((by rw [hg]; exact Nat.ne_of_lt (blk_lt (g := gb333) (o := .cells #[.int .i64 ((rd_T48 l0 x3_1).f0), .int .i64 ((rd_T48 l0 x3_1).f1), .int .i64 ((rd_T48 l0 x3_1).f2)] 48 (0, 0)) (zb BK333.out)) : gb333 ≠ gb335)); have NB335_333 := Aside0.mk ((by rw [hg]; exact Nat.ne_of_gt (blk_lt (g := gb333) (o := .cells #[.int .i64 ((rd_T48 l0 x3_1).f0), .int .i64 ((rd_T48 l0 x3_1).f1), .int .i64 ((rd_T48 l0 x3_1).f2)] 48 (0, 0)) (zb BK333.out)) : gb335 ≠ gb333)); replace BK333 := Aside0.mk (zB BK333.out hb); clear hb hbox hg; have hnbq5 := NB335_333.out; have hncq5 := NB333_335.out; obtain ⟨hczq5_0, hczq5_1, hczq5_2⟩ := cells3 BK335.out; have hfzq5_0 := blk_frozen BK335.out 0; have hfzq5_1 := blk_frozen BK335.out 1; have hfzq5_2 := blk_frozen BK335.out 2; have hczq5x9_0 : wq5.cell? ⟨gb333, 0, none⟩ = some (.int .i64 ((rd_T48 l0 x3_1).f0)) := (blk_cell BK333.out 0).trans rfl; have hczq5x10_1 : wq5.cell? ⟨gb333, 1, none⟩ = some (.int .i64 ((rd_T48 l0 x3_1).f1)) := (blk_cell BK333.out 1).trans rfl; have hczq5x11_2 : wq5.cell? ⟨gb333, 2, none⟩ = some (.int .i64 ((rd_T48 l0 x3_1).f2)) := (blk_cell BK333.out 2).trans rfl; have hfzq5x12_0 := blk_frozen BK333.out 0; have hfzq5x13_1 := blk_frozen BK333.out 1; have hfzq5x14_2 := blk_frozen BK333.out 2))
               first
               | (have _ := S0_
                  go_ret
                  exact ⟨ze, zh1 HB.out GE333.out⟩)
               | (have _ := S1_
                  go_roundg kj3
                  case measure => have := HK1.out; have := HJ3.out; omega
                  case rel => exact ⟨(wrap64 (x3_1 + 1)), (zs), H', ⟨by have := HK1.out; have := HJ3.out; omega⟩, ⟨zh1 HB.out GE333.out⟩⟩)
               | (have _ := S2_
                  go_ret
                  exact ⟨by first | rfl | (simp [errW_none, errW_some] <;> rfl) | (simp only [← hji24]; first | rfl | (simp [errW_none, errW_some] <;> rfl)) | (simp [*, errW_none, errW_some] <;> rfl), zh2 HB.out GE333.out GE335.out⟩)
               | (have _ := S3_
                  go_roundg kj3
                  case measure => have := HK1.out; have := HJ3.out; omega
                  case rel => exact ⟨(wrap64 (x3_1 + 1)), (zs), H', ⟨by have := HK1.out; have := HJ3.out; omega⟩, ⟨zh2 HB.out GE333.out GE335.out⟩⟩)))
      · rw [if_neg c3] at H
        exact absurd H (by simp)
    · rw [if_neg c2] at H
      have c2b0 : decide (x3_1 < (l0.length : Int)) = false := decide_eq_false c2
      clear c2
      obtain rfl := Option.some.inj H
      go_wp2
      go_ret
      exact ⟨ze, zh0 HB.out⟩

end Go.Proofs.Ytgigoogekimgkaa.GCrd
