/- printed for this claim by gprint.py, a program of this session, that drives the kit's printer. -/
import Derived.Test.YtgigoogekimgkaaGCrdx0
import Derived.Test.YtgigoogekimgkaaZ
namespace Go.Proofs.Ytgigoogekimgkaa.GCrd
open Go.RowKit Go.Proofs.YtgigoogekimgkaaW.PrintWords Go.Proofs.YtgigoogekimgkaaW.PrintLast Go.Proofs.YtgigoogekimgkaaW.PrintMore
attribute [local go_sem] max2_int min2_int max_two min_two max_three min_three max_four min_four   -- for this text's walks alone
set_option linter.unusedVariables false
set_option linter.unusedSimpArgs false

/-! ### spans_odd: function 51 -/
def spans_odd.f (a0_0 : Int) (a0_1 : Int) (a0_2 : Int) : Option (Bool) := if a0_0 < 0 then (some true) else (if a0_1 < 1 then (some true) else (if a0_2 < 1 then (some true) else (if a0_2 ≥ 65536 then (some true) else (if a0_0 > (wrap64 (65536 - a0_2)) then (some true) else (some (decide (a0_1 > (wrap64 (65536 - a0_2)))))))))
set_option maxHeartbeats 8000000 in
set_option maxRecDepth 100000 in
theorem spans_odd.calls (a0_0 : Int) (a0_1 : Int) (a0_2 : Int) (r : Bool) (w : World) (h : spans_odd.f a0_0 a0_1 a0_2 = some r) :
 Calls Try.prog 51 #[.agg #[.int .i64 a0_0, .int .i64 a0_1, .int .i64 a0_2]] w fun e w' => e = .returned (.bool r) ∧ Below w.heap.size w w' := by
 have hu48 := Try.underlying48
 have HB := Aside0.mk (Below.refl w.heap.size w)
 have H : (if a0_0 < 0 then (some true) else (if a0_1 < 1 then (some true) else (if a0_2 < 1 then (some true) else (if a0_2 ≥ 65536 then (some true) else (if a0_0 > (wrap64 (65536 - a0_2)) then (some true) else (some (decide (a0_1 > (wrap64 (65536 - a0_2)))))))))) = some r := h
 clear h
 by_cases c2 : a0_0 < 0
 all_goals (first
  | (skip
     rw [if_pos c2] at H
     have c2b0 : decide (a0_0 < 0) = true := decide_eq_true c2
     clear c2
     obtain rfl := Option.some.inj H
     have C0_ : True := trivial
     have S0_ : True := trivial)
  | (skip
     rw [if_neg c2] at H
     have c2b0 : decide (a0_0 < 0) = false := decide_eq_false c2
     clear c2
     by_cases c5 : a0_1 < 1
     all_goals (first
      | (skip
         rw [if_pos c5] at H
         have c5b0 : decide (a0_1 < 1) = true := decide_eq_true c5
         clear c5
         obtain rfl := Option.some.inj H
         have C0_ : True := trivial
         have S0_ : True := trivial)
      | (skip
         rw [if_neg c5] at H
         have c5b0 : decide (a0_1 < 1) = false := decide_eq_false c5
         clear c5
         by_cases c8 : a0_2 < 1
         all_goals (first
          | (skip
             rw [if_pos c8] at H
             have c8b0 : decide (a0_2 < 1) = true := decide_eq_true c8
             clear c8
             obtain rfl := Option.some.inj H
             have C0_ : True := trivial
             have S0_ : True := trivial)
          | (skip
             rw [if_neg c8] at H
             have c8b0 : decide (a0_2 < 1) = false := decide_eq_false c8
             clear c8
             by_cases c11 : a0_2 ≥ 65536
             all_goals (first
              | (skip
                 rw [if_pos c11] at H
                 have c11b0 : decide (65536 ≤ a0_2) = true := decide_eq_true c11
                 clear c11
                 obtain rfl := Option.some.inj H
                 have C0_ : True := trivial
                 have S0_ : True := trivial)
              | (skip
                 rw [if_neg c11] at H
                 have c11b0 : decide (65536 ≤ a0_2) = false := decide_eq_false c11
                 clear c11
                 by_cases c14 : a0_0 > (wrap64 (65536 - a0_2))
                 all_goals (first
                  | (skip
                     rw [if_pos c14] at H
                     have c14b0 : decide ((wrap64 (65536 - a0_2)) < a0_0) = true := decide_eq_true c14
                     clear c14
                     obtain rfl := Option.some.inj H
                     have C0_ : True := trivial
                     have S0_ : True := trivial)
                  | (skip
                     rw [if_neg c14] at H
                     have c14b0 : decide ((wrap64 (65536 - a0_2)) < a0_0) = false := decide_eq_false c14
                     clear c14
                     obtain rfl := Option.some.inj H
                     have C0_ : True := trivial
                     have S0_ : True := trivial))))))))))
 all_goals (
  first
  | (have _ := C0_
     go_enter Try.func51, Try.ntmps51
     go_wp2_with (first | ((with_reducible refine gate_dst (N := 1) rfl ?_); refine zbx (N := 1) (cs := #[.int .i64 a0_0, .int .i64 a0_1, .int .i64 a0_2]) (t := 48) ?_; intro gb116 hg wq1 hbox hb; have BK116 := Aside0.mk (hbox); have GW116 := Aside0.mk ((by rw [hg]; exact (below_size (zh0 HB.out)) : w.heap.size ≤ gb116)); have GE116 := GW116; replace HB := Aside0.mk (below_step (zh0 HB.out) hb); clear hb hbox hg; obtain ⟨hczq1_0, hczq1_1, hczq1_2⟩ := cells3 BK116.out; have hfzq1_0 := blk_frozen BK116.out 0; have hfzq1_1 := blk_frozen BK116.out 1; have hfzq1_2 := blk_frozen BK116.out 2))
     go_ret
     exact ⟨ze, zh1 HB.out GE116.out⟩))

/-! ### spans_joins: function 52 -/
def spans_joins.f (a0_0 : Int) (a0_1 : Int) (a0_2 : Int) (a1_0 : Int) (a1_1 : Int) (a1_2 : Int) : Option (Bool) := if (wrap64 (a0_0 + a0_2)) = a1_0 then (some ((wrap64 (a0_1 + a0_2)) == a1_1)) else (some false)
set_option maxHeartbeats 8000000 in
set_option maxRecDepth 100000 in
theorem spans_joins.calls (a0_0 : Int) (a0_1 : Int) (a0_2 : Int) (a1_0 : Int) (a1_1 : Int) (a1_2 : Int) (r : Bool) (w : World) (h : spans_joins.f a0_0 a0_1 a0_2 a1_0 a1_1 a1_2 = some r) :
 Calls Try.prog 52 #[.agg #[.int .i64 a0_0, .int .i64 a0_1, .int .i64 a0_2], .agg #[.int .i64 a1_0, .int .i64 a1_1, .int .i64 a1_2]] w fun e w' => e = .returned (.bool r) ∧ Below w.heap.size w w' := by
 have hu48 := Try.underlying48
 have HB := Aside0.mk (Below.refl w.heap.size w)
 have H : (if (wrap64 (a0_0 + a0_2)) = a1_0 then (some ((wrap64 (a0_1 + a0_2)) == a1_1)) else (some false)) = some r := h
 clear h
 by_cases c3 : (wrap64 (a0_0 + a0_2)) = a1_0
 all_goals (first
  | (skip
     rw [if_pos c3] at H
     have c3b0 : ((wrap64 (a0_0 + a0_2)) == a1_0) = true := beq_iff_eq.mpr c3
     have c3b1 : ((wrap64 (a0_0 + a0_2)) != a1_0) = false := bne_eq_false_iff_eq.mpr c3
     clear c3
     obtain rfl := Option.some.inj H
     have C0_ : True := trivial
     have S0_ : True := trivial)
  | (skip
     rw [if_neg c3] at H
     have c3b0 : ((wrap64 (a0_0 + a0_2)) == a1_0) = false := beq_eq_false_iff_ne.mpr c3
     have c3b1 : ((wrap64 (a0_0 + a0_2)) != a1_0) = true := bne_iff_ne.mpr c3
     obtain rfl := Option.some.inj H
     have C0_ : True := trivial
     have S0_ : True := trivial))
 all_goals (
  first
  | (have _ := C0_
     go_enter Try.func52, Try.ntmps52
     go_wp2_with (first | ((with_reducible refine gate_dst (N := 2) rfl ?_); refine zbx (N := 2) (cs := #[.int .i64 a0_0, .int .i64 a0_1, .int .i64 a0_2]) (t := 48) ?_; intro gb117 hg wq2 hbox hb; have BK117 := Aside0.mk (hbox); have GW117 := Aside0.mk ((by rw [hg]; exact (below_size (zh0 HB.out)) : w.heap.size ≤ gb117)); have GE117 := GW117; replace HB := Aside0.mk (below_step (zh0 HB.out) hb); clear hb hbox hg) | ((with_reducible refine gate_dst (N := 3) rfl ?_); refine zbx (N := 3) (cs := #[.int .i64 a1_0, .int .i64 a1_1, .int .i64 a1_2]) (t := 48) ?_; intro gb118 hg wq3 hbox hb; have BK118 := Aside0.mk (hbox); have GW118 := Aside0.mk ((by rw [hg]; exact (below_size (zh1 HB.out GE117.out)) : w.heap.size ≤ gb118)); have GE118 := GW118; replace HB := Aside0.mk (below_step (zh1 HB.out GE117.out) hb); have NB117_118 := Aside0.mk ((by rw [hg]; exact Nat.ne_of_lt (blk_lt (g := gb117) (o := .cells #[.int .i64 a0_0, .int .i64 a0_1, .int .i64 a0_2] 48 (0, 0)) (zb BK117.out)) : gb117 ≠ gb118)); have NB118_117 := Aside0.mk ((by rw [hg]; exact Nat.ne_of_gt (blk_lt (g := gb117) (o := .cells #[.int .i64 a0_0, .int .i64 a0_1, .int .i64 a0_2] 48 (0, 0)) (zb BK117.out)) : gb118 ≠ gb117)); replace BK117 := Aside0.mk (zB BK117.out hb); clear hb hbox hg; have hnbq3 := NB117_118.out; have hncq3 := NB118_117.out; obtain ⟨hczq3_0, hczq3_1, hczq3_2⟩ := cells3 BK117.out; have hfzq3_0 := blk_frozen BK117.out 0; have hfzq3_1 := blk_frozen BK117.out 1; have hfzq3_2 := blk_frozen BK117.out 2; have hczq3x10_0 : wq3.cell? ⟨gb118, 0, none⟩ = some (.int .i64 a1_0) := (blk_cell BK118.out 0).trans rfl; have hczq3x11_1 : wq3.cell? ⟨gb118, 1, none⟩ = some (.int .i64 a1_1) := (blk_cell BK118.out 1).trans rfl; have hczq3x12_2 : wq3.cell? ⟨gb118, 2, none⟩ = some (.int .i64 a1_2) := (blk_cell BK118.out 2).trans rfl; have hfzq3x13_0 := blk_frozen BK118.out 0; have hfzq3x14_1 := blk_frozen BK118.out 1; have hfzq3x15_2 := blk_frozen BK118.out 2))
     go_ret
     exact ⟨ze, zh2 HB.out GE117.out GE118.out⟩))

end Go.Proofs.Ytgigoogekimgkaa.GCrd
