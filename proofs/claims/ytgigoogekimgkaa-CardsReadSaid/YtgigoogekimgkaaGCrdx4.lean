/- printed for this claim by gprint.py, a program of this session, that drives the kit's printer. -/
import Derived.Test.YtgigoogekimgkaaGCrdx0
import Derived.Test.YtgigoogekimgkaaZ
import Derived.Test.YtgigoogekimgkaaGCrdx3
namespace Go.Proofs.Ytgigoogekimgkaa.GCrd
open Go.RowKit Go.Proofs.YtgigoogekimgkaaW.PrintWords Go.Proofs.YtgigoogekimgkaaW.PrintLast Go.Proofs.YtgigoogekimgkaaW.PrintMore
attribute [local go_sem] max2_int min2_int max_two min_two max_three min_three max_four min_four   -- for this text's walks alone
set_option linter.unusedVariables false
set_option linter.unusedSimpArgs false

/-! ### spans_Right: function 32 -/
def spans_Right.l0 : Nat → List (S48) → List (S48) → Int → Int → Option (Bool)
 | 0, _, _, _, _ => none
 | k + 1, x0, x5, x6, x7 => if x7 < x6 then (if 0 ≤ x7 then (if x7 < (x5.length : Int) then ((spans_odd.f ((rd_T48 x5 x7).f0) ((rd_T48 x5 x7).f1) ((rd_T48 x5 x7).f2)).bind fun t121 => (if t121 = true then (some false) else (if x7 > 0 then (if 0 ≤ (wrap64 (x7 - 1)) then (if (wrap64 (x7 - 1)) < (x0.length : Int) then (if ((rd_T48 x5 x7).f0) < (wrap64 (((rd_T48 x0 (wrap64 (x7 - 1))).f0) + ((rd_T48 x0 (wrap64 (x7 - 1))).f2))) then (some false) else ((spans_joins.f ((rd_T48 x0 (wrap64 (x7 - 1))).f0) ((rd_T48 x0 (wrap64 (x7 - 1))).f1) ((rd_T48 x0 (wrap64 (x7 - 1))).f2) ((rd_T48 x5 x7).f0) ((rd_T48 x5 x7).f1) ((rd_T48 x5 x7).f2)).bind fun t125 => (if t125 = true then (some false) else (spans_Right.l0 k x0 x5 x6 (wrap64 (x7 + 1)))))) else (none)) else (none)) else (spans_Right.l0 k x0 x5 x6 (wrap64 (x7 + 1)))))) else (none)) else (none)) else (some true)
def spans_Right.f (k : Nat) (l0 : List (S48)) : Option (Bool) := spans_Right.l0 k l0 l0 (l0.length : Int) 0
theorem spans_Right.mono_l : ∀ k, (∀ y0 y1 y2 y3, LeO (spans_Right.l0 k y0 y1 y2 y3) (spans_Right.l0 (k + 1) y0 y1 y2 y3))
 | 0 => fun _ _ _ _ r h => by simp [spans_Right.l0] at h
 | k + 1 => by
   have ih0 := spans_Right.mono_l k
   · intro y0 y1 y2 y3
     unfold spans_Right.l0
     repeat' first
     | (with_reducible exact ih0 _ _ _ _)
     | (with_reducible exact LeO.refl _)
     | (with_reducible exact LeO.none _)
     | (with_reducible refine LeO.ite ?_ ?_)
     | (with_reducible refine LeO.bind ?_ (fun _ => ?_))
     | exact ih0 _ _ _ _
     | exact LeO.none _
     | refine LeO.ite ?_ ?_
     | refine LeO.bind ?_ (fun _ => ?_)
theorem spans_Right.mono : ∀ a0 k, LeO (spans_Right.f k a0) (spans_Right.f (k + 1) a0) := by
 intro a0 k
 have ih0 := spans_Right.mono_l k
 unfold spans_Right.f
 repeat' first
  | (with_reducible exact ih0 _ _ _ _)
  | (with_reducible exact LeO.refl _)
  | (with_reducible exact LeO.none _)
  | (with_reducible refine LeO.ite ?_ ?_)
  | (with_reducible refine LeO.bind ?_ (fun _ => ?_))
  | exact ih0 _ _ _ _
  | exact LeO.none _
  | refine LeO.ite ?_ ?_
  | refine LeO.bind ?_ (fun _ => ?_)
def spans_Right.T4 : Bool × List (List Nat × List Nat) := (true, [([], []), ([0], [0]), ([1, 1], [1]), ([2], [2]), ([3, 2], [2, 3]), ([4, 2, 2], [2, 4]), ([5], [5]), ([6, 5], [5, 6]), ([5], [5]), ([5], [5]), ([9, 5], [5, 9]), ([8, 10, 5], [5, 8, 10]), ([11, 5], [5, 11]), ([12, 5], [5, 12]), ([5], [5]), ([5], [5]), ([15, 5], [5, 15]), ([14, 16, 5], [5, 14, 16]), ([17, 5], [5, 17]), ([18, 5], [5, 18]), ([13, 19, 5], [5, 13, 19]), ([7, 20, 5], [5, 7, 20]), ([21, 5, 5], [5, 21]), ([22], [22]), ([22], [22]), ([24, 22], [22, 24]), ([23, 25, 22], [22, 23, 25]), ([26, 22], [22, 26]), ([22], [22]), ([27, 28, 22, 22], [22, 27, 28]), ([22, 29, 5], [5, 22, 29]), ([5, 30, 2], [2, 5, 30]), ([2, 31], [2, 31])])
def spans_Right.B4 : List Nat := [0, 1, 3, 7, 15, 31, 63, 127, 63, 63, 575, 1855, 3903, 7999, 63, 63, 32831, 114751, 245823, 507967, 1048383, 2097151, 4194303, 8388607, 8388607, 25165823, 67108863, 134217727, 8388607, 536870911, 1073741823, 2147483647, 4294967295]
theorem spans_Right.tab4 : rtab .any (opsOf Try.f32 4) = spans_Right.T4 := by kernel_rfl
theorem spans_Right.bits4 : waitsOk spans_Right.T4.2 spans_Right.B4 = true := by kernel_rfl
set_option maxHeartbeats 8000000 in
set_option maxRecDepth 100000 in
theorem spans_Right.calls (k : Nat) (A0 : Option Addr) (c0 : Nat) (l0 : List (S48)) (r : Bool) (w : World) (hr0 : Kd.C k48 w A0 l0.length l0) (hc0 : l0.length ≤ c0) (h : spans_Right.f k l0 = some r) :
 Calls Try.prog 32 #[.slice A0 l0.length c0] w fun e w' => e = .returned (.bool r) ∧ Below w.heap.size w w' := by
 have hu48 := Try.underlying48
 have HR0 := Aside0.mk hr0
 have HC0 := Aside0.mk hc0
 clear hr0 hc0
 have HB := Aside0.mk (Below.refl w.heap.size w)
 have H : (spans_Right.l0 k l0 l0 (l0.length : Int) 0) = some r := h
 clear h
 have H' := Aside0.mk H
 clear H
 go_enter Try.func32, Try.ntmps32
 go_wp2
 go_loopg [7] k (fun kq v7 w' => ∃ (x7_1 : Int), v7 = .int .i64 x7_1 ∧ Aside0 (spans_Right.l0 kq l0 l0 (l0.length : Int) x7_1 = some r) ∧ Aside0 (kq ≤ k) ∧ Aside0 (Below w.heap.size w w'))
 case atStart => exact ⟨(0), (zs), H', ⟨Nat.le_refl _⟩, ⟨zh0 HB.out⟩⟩
 case round =>
  clear H'
  obtain ⟨x7_1, rfl, HA, HK1, HB⟩ := hrel
  cases gk with
  | zero => exact absurd HA.out (by simp [spans_Right.l0])
  | succ k1 =>
    have H := HA.out
    clear HA
    simp only [spans_Right.l0] at H
    by_cases c2 : x7_1 < (l0.length : Int)
    all_goals (first
     | (skip
        rw [if_pos c2] at H
        have c2b0 : decide (x7_1 < (l0.length : Int)) = true := decide_eq_true c2
        clear c2
        by_cases c3 : 0 ≤ x7_1
        all_goals (first
         | (skip
            rw [if_pos c3] at H
            have c3b0 : decide (0 ≤ x7_1) = true := decide_eq_true c3
            clear c3
            by_cases c4 : x7_1 < (l0.length : Int)
            all_goals (first
             | (skip
                rw [if_pos c4] at H
                have c4b0 : decide (x7_1 < (l0.length : Int)) = true := decide_eq_true c4
                clear c4
                replace H := Option.bind_eq_some_iff.mp H
                obtain ⟨tq0, Aq0z, H⟩ := H
                have Aq0 := Aside0.mk Aq0z
                clear Aq0z
                by_cases c6 : tq0 = true
                all_goals (first
                 | (skip
                    subst c6
                    rw [if_pos rfl] at H
                    obtain rfl := Option.some.inj H
                    have p119 : 0 ≤ (x7_1 : Int) := zd
                    have q119 : x7_1 < (l0.length : Int) := zd
                    obtain ⟨ad119, e119, hx119_0, hx119_1, hx119_2⟩ := at_T48 HR0.out x7_1 p119 q119
                    cases e119
                    replace hx119_0 := pw_cell_below HB.out hx119_0
                    replace hx119_1 := pw_cell_below HB.out hx119_1
                    replace hx119_2 := pw_cell_below HB.out hx119_2
                    replace p119 := eq_true p119
                    replace q119 := eq_true q119
                    have C0_ : True := trivial
                    have S0_ : True := trivial)
                 | (skip
                    replace c6 := Bool.eq_false_iff.mpr c6
                    subst c6
                    rw [if_neg (show ¬ (false = true) by decide)] at H
                    by_cases c12 : x7_1 > 0
                    all_goals (first
                     | (skip
                        rw [if_pos c12] at H
                        have c12b0 : decide (0 < x7_1) = true := decide_eq_true c12
                        clear c12
                        obtain ⟨ji13, hji13⟩ : ∃ j_ : Int, (wrap64 (x7_1 - 1)) = j_ := ⟨_, rfl⟩
                        replace H : (if 0 ≤ (ji13) then (if (ji13) < (l0.length : Int) then (if ((rd_T48 l0 x7_1).f0) < (wrap64 (((rd_T48 l0 (ji13)).f0) + ((rd_T48 l0 (ji13)).f2))) then (some false) else ((spans_joins.f ((rd_T48 l0 (ji13)).f0) ((rd_T48 l0 (ji13)).f1) ((rd_T48 l0 (ji13)).f2) ((rd_T48 l0 x7_1).f0) ((rd_T48 l0 x7_1).f1) ((rd_T48 l0 x7_1).f2)).bind fun t125 => (if t125 = true then (some false) else (spans_Right.l0 k1 l0 l0 (l0.length : Int) (wrap64 (x7_1 + 1)))))) else (none)) else (none)) = some r := by first | (rw [hji13] at H; exact H) | (simp only [hji13] at H ⊢; exact H)
                        (try rw [hji13] at Aq0)
                        have hji13w : (IntKind.i64.wrap (x7_1 - 1)) = ji13 := (i64_w _).trans hji13
                        by_cases c14 : 0 ≤ (ji13)
                        all_goals (first
                         | (skip
                            rw [if_pos c14] at H
                            have c14b0 : decide (0 ≤ (ji13)) = true := decide_eq_true c14
                            clear c14
                            by_cases c15 : (ji13) < (l0.length : Int)
                            all_goals (first
                             | (skip
                                rw [if_pos c15] at H
                                have c15b0 : decide ((ji13) < (l0.length : Int)) = true := decide_eq_true c15
                                clear c15
                                by_cases c16 : ((rd_T48 l0 x7_1).f0) < (wrap64 (((rd_T48 l0 (ji13)).f0) + ((rd_T48 l0 (ji13)).f2)))
                                all_goals (first
                                 | (skip
                                    rw [if_pos c16] at H
                                    have c16b0 : decide (((rd_T48 l0 x7_1).f0) < (wrap64 (((rd_T48 l0 (ji13)).f0) + ((rd_T48 l0 (ji13)).f2)))) = true := decide_eq_true c16
                                    clear c16
                                    obtain rfl := Option.some.inj H
                                    have p119 : 0 ≤ (x7_1 : Int) := zd
                                    have q119 : x7_1 < (l0.length : Int) := zd
                                    obtain ⟨ad119, e119, hx119_0, hx119_1, hx119_2⟩ := at_T48 HR0.out x7_1 p119 q119
                                    cases e119
                                    replace hx119_0 := pw_cell_below HB.out hx119_0
                                    replace hx119_1 := pw_cell_below HB.out hx119_1
                                    replace hx119_2 := pw_cell_below HB.out hx119_2
                                    replace p119 := eq_true p119
                                    replace q119 := eq_true q119
                                    have C0_ : True := trivial
                                    have S1_ : True := trivial)
                                 | (skip
                                    rw [if_neg c16] at H
                                    have c16b0 : decide (((rd_T48 l0 x7_1).f0) < (wrap64 (((rd_T48 l0 (ji13)).f0) + ((rd_T48 l0 (ji13)).f2)))) = false := decide_eq_false c16
                                    clear c16
                                    replace H := Option.bind_eq_some_iff.mp H
                                    obtain ⟨tq1, Aq1z, H⟩ := H
                                    have Aq1 := Aside0.mk Aq1z
                                    clear Aq1z
                                    by_cases c23 : tq1 = true
                                    all_goals (first
                                     | (skip
                                        subst c23
                                        rw [if_pos rfl] at H
                                        obtain rfl := Option.some.inj H
                                        have p119 : 0 ≤ (x7_1 : Int) := zd
                                        have q119 : x7_1 < (l0.length : Int) := zd
                                        obtain ⟨ad119, e119, hx119_0, hx119_1, hx119_2⟩ := at_T48 HR0.out x7_1 p119 q119
                                        cases e119
                                        replace hx119_0 := pw_cell_below HB.out hx119_0
                                        replace hx119_1 := pw_cell_below HB.out hx119_1
                                        replace hx119_2 := pw_cell_below HB.out hx119_2
                                        replace p119 := eq_true p119
                                        replace q119 := eq_true q119
                                        have C0_ : True := trivial
                                        have S2_ : True := trivial)
                                     | (skip
                                        replace c23 := Bool.eq_false_iff.mpr c23
                                        subst c23
                                        rw [if_neg (show ¬ (false = true) by decide)] at H
                                        have H' := Aside0.mk H
                                        clear H
                                        have p119 : 0 ≤ (x7_1 : Int) := zd
                                        have q119 : x7_1 < (l0.length : Int) := zd
                                        obtain ⟨ad119, e119, hx119_0, hx119_1, hx119_2⟩ := at_T48 HR0.out x7_1 p119 q119
                                        cases e119
                                        replace hx119_0 := pw_cell_below HB.out hx119_0
                                        replace hx119_1 := pw_cell_below HB.out hx119_1
                                        replace hx119_2 := pw_cell_below HB.out hx119_2
                                        replace p119 := eq_true p119
                                        replace q119 := eq_true q119
                                        have C0_ : True := trivial
                                        have S3_ : True := trivial)))))
                             | (skip
                                rw [if_neg c15] at H
                                exact absurd H (by simp))))
                         | (skip
                            rw [if_neg c14] at H
                            exact absurd H (by simp))))
                     | (skip
                        rw [if_neg c12] at H
                        have c12b0 : decide (0 < x7_1) = false := decide_eq_false c12
                        clear c12
                        have H' := Aside0.mk H
                        clear H
                        have p119 : 0 ≤ (x7_1 : Int) := zd
                        have q119 : x7_1 < (l0.length : Int) := zd
                        obtain ⟨ad119, e119, hx119_0, hx119_1, hx119_2⟩ := at_T48 HR0.out x7_1 p119 q119
                        cases e119
                        replace hx119_0 := pw_cell_below HB.out hx119_0
                        replace hx119_1 := pw_cell_below HB.out hx119_1
                        replace hx119_2 := pw_cell_below HB.out hx119_2
                        replace p119 := eq_true p119
                        replace q119 := eq_true q119
                        have C0_ : True := trivial
                        have S4_ : True := trivial)))))
             | (skip
                rw [if_neg c4] at H
                exact absurd H (by simp))))
         | (skip
            rw [if_neg c3] at H
            exact absurd H (by simp))))
     | (skip
        rw [if_neg c2] at H
        have c2b0 : decide (x7_1 < (l0.length : Int)) = false := decide_eq_false c2
        clear c2
        obtain rfl := Option.some.inj H
        have C1_ : True := trivial
        have S0_ : True := trivial))
    all_goals (
     first
     | (have _ := C0_
        try go_wp2_with (first | ((with_reducible refine gate_dst (N := 4) rfl ?_); refine zbx (N := 4) (cs := #[.int .i64 0, .int .i64 0, .int .i64 0]) (t := 48) ?_; intro gb120 hg wq4 hbox hb; have BK120 := Aside0.mk (hbox); have GW120 := Aside0.mk ((by rw [hg]; exact (below_size (zh0 HB.out)) : w.heap.size ≤ gb120)); have GE120 := GW120; replace HB := Aside0.mk (below_step (zh0 HB.out) hb); clear hb hbox hg; obtain ⟨hczq4_0, hczq4_1, hczq4_2⟩ := cells3 BK120.out; have hfzq4_0 := blk_frozen BK120.out 0; have hfzq4_1 := blk_frozen BK120.out 1; have hfzq4_2 := blk_frozen BK120.out 2))
        first
        | (have _ := S0_
           have n0_ : Aside0 ((((wq4.setCell ⟨gb120, 0, none⟩ (.int .i64 ((rd_T48 l0 x7_1).f0))).setCell ⟨gb120, 1, none⟩ (.int .i64 ((rd_T48 l0 x7_1).f1))).setCell ⟨gb120, 2, none⟩ (.int .i64 ((rd_T48 l0 x7_1).f2))).heap[gb120]? = some (.cells #[.int .i64 ((rd_T48 l0 x7_1).f0), .int .i64 ((rd_T48 l0 x7_1).f1), .int .i64 ((rd_T48 l0 x7_1).f2)] 48 (0, 0))) := ⟨by (with_reducible repeat (first | refine blk_drewN ?_ _ | refine blk_drew ?_ | refine blk_alloc ?_ _)); refine blk_put (cs := #[.int .i64 ((rd_T48 l0 x7_1).f0), .int .i64 ((rd_T48 l0 x7_1).f1), .int .i64 0]) ?_ 2 _ rfl; (with_reducible repeat (first | refine blk_drewN ?_ _ | refine blk_drew ?_ | refine blk_alloc ?_ _)); refine blk_put (cs := #[.int .i64 ((rd_T48 l0 x7_1).f0), .int .i64 0, .int .i64 0]) ?_ 1 _ rfl; (with_reducible repeat (first | refine blk_drewN ?_ _ | refine blk_drew ?_ | refine blk_alloc ?_ _)); refine blk_put (cs := #[.int .i64 0, .int .i64 0, .int .i64 0]) ?_ 0 _ rfl; (with_reducible repeat (first | refine blk_drewN ?_ _ | refine blk_drew ?_ | refine blk_alloc ?_ _)); exact BK120.out⟩
           have n1_ : Aside0 (Below w.heap.size w (((wq4.setCell ⟨gb120, 0, none⟩ (.int .i64 ((rd_T48 l0 x7_1).f0))).setCell ⟨gb120, 1, none⟩ (.int .i64 ((rd_T48 l0 x7_1).f1))).setCell ⟨gb120, 2, none⟩ (.int .i64 ((rd_T48 l0 x7_1).f2)))) := ⟨zh1 HB.out GE120.out⟩
           (try clear BK120); (try clear HB)
           generalize (((wq4.setCell ⟨gb120, 0, none⟩ (.int .i64 ((rd_T48 l0 x7_1).f0))).setCell ⟨gb120, 1, none⟩ (.int .i64 ((rd_T48 l0 x7_1).f1))).setCell ⟨gb120, 2, none⟩ (.int .i64 ((rd_T48 l0 x7_1).f2))) = w9 at n0_ n1_ ⊢
           have BK120 := n0_
           have HB := n1_
           clear n0_ n1_
           replace BK120 := Aside0.mk (blk_drew BK120.out)
           replace HB := Aside0.mk (below_drew1 HB.out)
           refine start_ (n := 33) (S := fun w' => w'.cell? ⟨gb120, 0, none⟩ = some (.int .i64 ((rd_T48 l0 x7_1).f0)) ∧ w'.cell? ⟨gb120, 1, none⟩ = some (.int .i64 ((rd_T48 l0 x7_1).f1)) ∧ w'.cell? ⟨gb120, 2, none⟩ = some (.int .i64 ((rd_T48 l0 x7_1).f2))) (ds := []) (mk_ 0 33) (by kernel_rfl) rfl rfl ⟨(blk_cell BK120.out 0).trans rfl, (blk_cell BK120.out 1).trans rfl, (blk_cell BK120.out 2).trans rfl⟩ (fun hHeld => ?_); refine with_tabW spans_Right.tab4 spans_Right.bits4 (fun HT_ HW_ => ?_)
           generalize w9.drew = w10 at BK120 HB hHeld ⊢
           refine take_ (i := 0) (N := some 12) (v := ?_) (a' := ?_) (mk_ 1 33) rfl rfl (take_ofW HT_.out HW_.out (by kernel_rfl)) (fun _ _ _ h => h) (Or.inl ⟨by rfl, ?_⟩) hHeld ?_ ?_
           rotate_left
           · rintro w' ⟨s0, s1, s2⟩
             go_simp
             with_reducible rfl
           rotate_left
           · simp only [Act.put, zi, zi0, zi1, i64_w, i32_w]
             rfl
           refine one_ (i := 1) (N := some 13) (mk_ 2 33) rfl rfl (one_of HT_.out (by kernel_rfl)) (by decide) (fun K hK => ?_)
           refine zgo Try.func51 #[.agg #[.int .i64 ((rd_T48 l0 x7_1).f0), .int .i64 ((rd_T48 l0 x7_1).f1), .int .i64 ((rd_T48 l0 x7_1).f2)]] ?_
           with_reducible refine (spans_odd.calls ((rd_T48 l0 x7_1).f0) ((rd_T48 l0 x7_1).f1) ((rd_T48 l0 x7_1).f2) true _ Aq0.out).mono ?_
           rintro e w11 ⟨rfl, hb⟩
           refine ⟨_, rfl, ?_⟩
           replace BK120 := Aside0.mk (zB BK120.out hb)
           replace HB := Aside0.mk (below_step (zh1 HB.out GE120.out) hb)
           (try clear hb); (try clear hb2)
           (try clear hk); (try clear hi)
           refine hK.out _ _ ⟨(blk_cell BK120.out 0).trans rfl, (blk_cell BK120.out 1).trans rfl, (blk_cell BK120.out 2).trans rfl⟩ (fun hHeld => ?_)
           clear hK K
           refine zn (some 13) ?_
           refine zp (i := 2) (N := some 14) (mk_ 3 33) HT_.out ?_
           refine zu (i := 3) (N := some 15) (mk_ 4 33) HT_.out ?_
           refine zu (i := 4) (N := some 16) (mk_ 5 33) HT_.out ?_
           refine zu (i := 5) (N := some 17) (mk_ 6 33) HT_.out ?_
           refine zu (i := 6) (N := some 18) (mk_ 7 33) HT_.out ?_
           refine zu (i := 7) (N := some 19) (mk_ 8 33) HT_.out ?_
           refine zu (i := 8) (N := some 20) (mk_ 9 33) HT_.out ?_
           refine zu (i := 9) (N := some 21) (mk_ 10 33) HT_.out ?_
           refine zu (i := 10) (N := some 22) (mk_ 11 33) HT_.out ?_
           refine zu (i := 11) (N := some 23) (mk_ 12 33) HT_.out ?_
           refine zu (i := 12) (N := some 24) (mk_ 13 33) HT_.out ?_
           refine zu (i := 13) (N := some 25) (mk_ 14 33) HT_.out ?_
           refine zu (i := 14) (N := some 26) (mk_ 15 33) HT_.out ?_
           refine zu (i := 15) (N := some 27) (mk_ 16 33) HT_.out ?_
           refine zu (i := 16) (N := some 28) (mk_ 17 33) HT_.out ?_
           refine zu (i := 17) (N := some 29) (mk_ 18 33) HT_.out ?_
           refine zu (i := 18) (N := some 30) (mk_ 19 33) HT_.out ?_
           refine zu (i := 19) (N := some 31) (mk_ 20 33) HT_.out ?_
           refine zu (i := 20) (N := some 32) (mk_ 21 33) HT_.out ?_
           refine zu (i := 21) (N := some 33) (mk_ 22 33) HT_.out ?_
           refine zu (i := 22) (N := some 34) (mk_ 23 33) HT_.out ?_
           refine zu (i := 23) (N := some 35) (mk_ 24 33) HT_.out ?_
           refine zu (i := 24) (N := some 36) (mk_ 25 33) HT_.out ?_
           refine zu (i := 25) (N := some 37) (mk_ 26 33) HT_.out ?_
           refine zu (i := 26) (N := some 38) (mk_ 27 33) HT_.out ?_
           refine zu (i := 27) (N := some 39) (mk_ 28 33) HT_.out ?_
           refine zu (i := 28) (N := some 40) (mk_ 29 33) HT_.out ?_
           refine zu (i := 29) (N := some 41) (mk_ 30 33) HT_.out ?_
           refine zu (i := 30) (N := some 42) (mk_ 31 33) HT_.out ?_
           refine zu (i := 31) (N := some 43) (mk_ 32 33) HT_.out ?_
           refine zp (i := 32) (N := some 44) (mk_ 33 33) HT_.out ?_
           refine done_ (done_of HT_.out (by kernel_rfl)) ?_
           try go_wp2
           go_ret
           exact ⟨ze, zh1 HB.out GE120.out⟩)
        | (have _ := S1_
           have n0_ : Aside0 ((((wq4.setCell ⟨gb120, 0, none⟩ (.int .i64 ((rd_T48 l0 x7_1).f0))).setCell ⟨gb120, 1, none⟩ (.int .i64 ((rd_T48 l0 x7_1).f1))).setCell ⟨gb120, 2, none⟩ (.int .i64 ((rd_T48 l0 x7_1).f2))).heap[gb120]? = some (.cells #[.int .i64 ((rd_T48 l0 x7_1).f0), .int .i64 ((rd_T48 l0 x7_1).f1), .int .i64 ((rd_T48 l0 x7_1).f2)] 48 (0, 0))) := ⟨by (with_reducible repeat (first | refine blk_drewN ?_ _ | refine blk_drew ?_ | refine blk_alloc ?_ _)); refine blk_put (cs := #[.int .i64 ((rd_T48 l0 x7_1).f0), .int .i64 ((rd_T48 l0 x7_1).f1), .int .i64 0]) ?_ 2 _ rfl; (with_reducible repeat (first | refine blk_drewN ?_ _ | refine blk_drew ?_ | refine blk_alloc ?_ _)); refine blk_put (cs := #[.int .i64 ((rd_T48 l0 x7_1).f0), .int .i64 0, .int .i64 0]) ?_ 1 _ rfl; (with_reducible repeat (first | refine blk_drewN ?_ _ | refine blk_drew ?_ | refine blk_alloc ?_ _)); refine blk_put (cs := #[.int .i64 0, .int .i64 0, .int .i64 0]) ?_ 0 _ rfl; (with_reducible repeat (first | refine blk_drewN ?_ _ | refine blk_drew ?_ | refine blk_alloc ?_ _)); exact BK120.out⟩
           have n1_ : Aside0 (Below w.heap.size w (((wq4.setCell ⟨gb120, 0, none⟩ (.int .i64 ((rd_T48 l0 x7_1).f0))).setCell ⟨gb120, 1, none⟩ (.int .i64 ((rd_T48 l0 x7_1).f1))).setCell ⟨gb120, 2, none⟩ (.int .i64 ((rd_T48 l0 x7_1).f2)))) := ⟨zh1 HB.out GE120.out⟩
           (try clear BK120); (try clear HB)
           generalize (((wq4.setCell ⟨gb120, 0, none⟩ (.int .i64 ((rd_T48 l0 x7_1).f0))).setCell ⟨gb120, 1, none⟩ (.int .i64 ((rd_T48 l0 x7_1).f1))).setCell ⟨gb120, 2, none⟩ (.int .i64 ((rd_T48 l0 x7_1).f2))) = w19 at n0_ n1_ ⊢
           have BK120 := n0_
           have HB := n1_
           clear n0_ n1_
           replace BK120 := Aside0.mk (blk_drew BK120.out)
           replace HB := Aside0.mk (below_drew1 HB.out)
           have p122 : 0 ≤ ((ji13) : Int) := zd
           have q122 : (ji13) < (l0.length : Int) := zd
           obtain ⟨ad122, e122, hx122_0, hx122_1, hx122_2⟩ := at_T48 HR0.out (ji13) p122 q122
           have hw122_2 := hx122_2
           have hw122_1 := hx122_1
           have hw122_0 := hx122_0
           obtain rfl : ad119 = ad122 := (by injection e122)
           replace hx122_0 := pw_cell_below HB.out hx122_0
           replace hx122_1 := pw_cell_below HB.out hx122_1
           replace hx122_2 := pw_cell_below HB.out hx122_2
           replace p122 := eq_true p122
           replace q122 := eq_true q122
           have p123 : 0 ≤ ((ji13) : Int) := zd
           have q123 : (ji13) < (l0.length : Int) := zd
           obtain ⟨ad123, e123, hx123_0, hx123_1, hx123_2⟩ := at_T48 HR0.out (ji13) p123 q123
           have hw123_2 := hx123_2
           have hw123_1 := hx123_1
           have hw123_0 := hx123_0
           obtain rfl : ad119 = ad123 := (by injection e123)
           replace hx123_0 := pw_cell_below HB.out hx123_0
           replace hx123_1 := pw_cell_below HB.out hx123_1
           replace hx123_2 := pw_cell_below HB.out hx123_2
           replace p123 := eq_true p123
           replace q123 := eq_true q123
           refine start_ (n := 33) (S := fun w' => w'.cell? ⟨gb120, 0, none⟩ = some (.int .i64 ((rd_T48 l0 x7_1).f0)) ∧ w'.cell? ⟨gb120, 1, none⟩ = some (.int .i64 ((rd_T48 l0 x7_1).f1)) ∧ w'.cell? ⟨gb120, 2, none⟩ = some (.int .i64 ((rd_T48 l0 x7_1).f2)) ∧ w'.cell? (ad119.add (((ji13)).toNat * 3)) = some (.int .i64 ((rd_T48 l0 (ji13)).f0)) ∧ w'.cell? ⟨(ad119.add (((ji13)).toNat * 3)).block, (ad119.add (((ji13)).toNat * 3)).off + 1, none⟩ = some (.int .i64 ((rd_T48 l0 (ji13)).f1)) ∧ w'.cell? ⟨(ad119.add (((ji13)).toNat * 3)).block, (ad119.add (((ji13)).toNat * 3)).off + 2, none⟩ = some (.int .i64 ((rd_T48 l0 (ji13)).f2)) ∧ w'.cell? (ad119.add (((ji13)).toNat * 3)) = some (.int .i64 ((rd_T48 l0 (ji13)).f0)) ∧ w'.cell? ⟨(ad119.add (((ji13)).toNat * 3)).block, (ad119.add (((ji13)).toNat * 3)).off + 1, none⟩ = some (.int .i64 ((rd_T48 l0 (ji13)).f1)) ∧ w'.cell? ⟨(ad119.add (((ji13)).toNat * 3)).block, (ad119.add (((ji13)).toNat * 3)).off + 2, none⟩ = some (.int .i64 ((rd_T48 l0 (ji13)).f2))) (ds := []) (mk_ 0 33) (by kernel_rfl) rfl rfl ⟨(blk_cell BK120.out 0).trans rfl, (blk_cell BK120.out 1).trans rfl, (blk_cell BK120.out 2).trans rfl, (pw_cell_below HB.out hw122_0), (pw_cell_below HB.out hw122_1), (pw_cell_below HB.out hw122_2), (pw_cell_below HB.out hw123_0), (pw_cell_below HB.out hw123_1), (pw_cell_below HB.out hw123_2)⟩ (fun hHeld => ?_); refine with_tabW spans_Right.tab4 spans_Right.bits4 (fun HT_ HW_ => ?_)
           generalize w19.drew = w20 at BK120 HB hx122_0 hx122_1 hx122_2 hx123_0 hx123_1 hx123_2 hHeld ⊢
           refine take_ (i := 0) (N := some 12) (v := ?_) (a' := ?_) (mk_ 1 33) rfl rfl (take_ofW HT_.out HW_.out (by kernel_rfl)) (fun _ _ _ h => h) (Or.inl ⟨by rfl, ?_⟩) hHeld ?_ ?_
           rotate_left
           · rintro w' ⟨s0, s1, s2, s3, s4, s5, s6, s7, s8⟩
             go_simp
             with_reducible rfl
           rotate_left
           · simp only [Act.put, zi, zi0, zi1, i64_w, i32_w]
             rfl
           refine one_ (i := 1) (N := some 13) (mk_ 2 33) rfl rfl (one_of HT_.out (by kernel_rfl)) (by decide) (fun K hK => ?_)
           refine zgo Try.func51 #[.agg #[.int .i64 ((rd_T48 l0 x7_1).f0), .int .i64 ((rd_T48 l0 x7_1).f1), .int .i64 ((rd_T48 l0 x7_1).f2)]] ?_
           with_reducible refine (spans_odd.calls ((rd_T48 l0 x7_1).f0) ((rd_T48 l0 x7_1).f1) ((rd_T48 l0 x7_1).f2) false _ Aq0.out).mono ?_
           rintro e w21 ⟨rfl, hb⟩
           refine ⟨_, rfl, ?_⟩
           replace BK120 := Aside0.mk (zB BK120.out hb)
           replace HB := Aside0.mk (below_step (zh1 HB.out GE120.out) hb)
           (try clear hb); (try clear hb2)
           (try clear hk); (try clear hi)
           refine hK.out _ _ ⟨(blk_cell BK120.out 0).trans rfl, (blk_cell BK120.out 1).trans rfl, (blk_cell BK120.out 2).trans rfl, (pw_cell_below HB.out hw122_0), (pw_cell_below HB.out hw122_1), (pw_cell_below HB.out hw122_2), (pw_cell_below HB.out hw123_0), (pw_cell_below HB.out hw123_1), (pw_cell_below HB.out hw123_2)⟩ (fun hHeld => ?_)
           clear hK K
           refine zn (some 13) ?_
           refine zp (i := 2) (N := some 14) (mk_ 3 33) HT_.out ?_
           refine zp (i := 3) (N := some 15) (mk_ 4 33) HT_.out ?_
           refine zp (i := 4) (N := some 16) (mk_ 5 33) HT_.out ?_
           refine zp (i := 5) (N := some 17) (mk_ 6 33) HT_.out ?_
           refine zp (i := 6) (N := some 18) (mk_ 7 33) HT_.out ?_
           refine zp (i := 8) (N := some 20) #[true, true, true, true, true, true, true, false, true, false, false, false, false, false, false, false, false, false, false, false, false, false, false, false, false, false, false, false, false, false, false, false, false] HT_.out ?_
           refine zp (i := 9) (N := some 21) #[true, true, true, true, true, true, true, false, true, true, false, false, false, false, false, false, false, false, false, false, false, false, false, false, false, false, false, false, false, false, false, false, false] HT_.out ?_
           refine zp (i := 10) (N := some 22) #[true, true, true, true, true, true, true, false, true, true, true, false, false, false, false, false, false, false, false, false, false, false, false, false, false, false, false, false, false, false, false, false, false] HT_.out ?_
           refine zp (i := 11) (N := some 23) #[true, true, true, true, true, true, true, false, true, true, true, true, false, false, false, false, false, false, false, false, false, false, false, false, false, false, false, false, false, false, false, false, false] HT_.out ?_
           refine zp (i := 12) (N := some 24) #[true, true, true, true, true, true, true, false, true, true, true, true, true, false, false, false, false, false, false, false, false, false, false, false, false, false, false, false, false, false, false, false, false] HT_.out ?_
           refine zp (i := 14) (N := some 26) #[true, true, true, true, true, true, true, false, true, true, true, true, true, false, true, false, false, false, false, false, false, false, false, false, false, false, false, false, false, false, false, false, false] HT_.out ?_
           refine zp (i := 15) (N := some 27) #[true, true, true, true, true, true, true, false, true, true, true, true, true, false, true, true, false, false, false, false, false, false, false, false, false, false, false, false, false, false, false, false, false] HT_.out ?_
           refine zp (i := 16) (N := some 28) #[true, true, true, true, true, true, true, false, true, true, true, true, true, false, true, true, true, false, false, false, false, false, false, false, false, false, false, false, false, false, false, false, false] HT_.out ?_
           refine zp (i := 17) (N := some 29) #[true, true, true, true, true, true, true, false, true, true, true, true, true, false, true, true, true, true, false, false, false, false, false, false, false, false, false, false, false, false, false, false, false] HT_.out ?_
           refine zp (i := 18) (N := some 30) #[true, true, true, true, true, true, true, false, true, true, true, true, true, false, true, true, true, true, true, false, false, false, false, false, false, false, false, false, false, false, false, false, false] HT_.out ?_
           refine take_ (i := 7) (N := some 19) (v := ?_) (a' := ?_) #[true, true, true, true, true, true, true, true, true, true, true, true, true, false, true, true, true, true, true, false, false, false, false, false, false, false, false, false, false, false, false, false, false] rfl rfl (take_ofW HT_.out HW_.out (by kernel_rfl)) (fun _ _ _ h => h) (Or.inl ⟨by rfl, ?_⟩) hHeld ?_ ?_
           rotate_left
           · rintro w' ⟨s0, s1, s2, s3, s4, s5, s6, s7, s8⟩
             go_simp
             with_reducible rfl
           rotate_left
           · simp only [Act.put, zi, zi0, zi1, i64_w, i32_w]
             rfl
           refine take_ (i := 13) (N := some 25) (v := ?_) (a' := ?_) (mk_ 19 33) rfl rfl (take_ofW HT_.out HW_.out (by kernel_rfl)) (fun _ _ _ h => h) (Or.inl ⟨by rfl, ?_⟩) hHeld ?_ ?_
           rotate_left
           · rintro w' ⟨s0, s1, s2, s3, s4, s5, s6, s7, s8⟩
             go_simp
             with_reducible rfl
           rotate_left
           · simp only [Act.put, zi, zi0, zi1, i64_w, i32_w]
             rfl
           refine take_ (i := 19) (N := some 31) (v := ?_) (a' := ?_) (mk_ 20 33) rfl rfl (take_ofW HT_.out HW_.out (by kernel_rfl)) (fun _ _ _ h => h) (Or.inl ⟨by rfl, ?_⟩) hHeld ?_ ?_
           rotate_left
           · rintro w' ⟨s0, s1, s2, s3, s4, s5, s6, s7, s8⟩
             go_simp
             with_reducible rfl
           rotate_left
           · simp only [Act.put, zi, zi0, zi1, i64_w, i32_w]
             rfl
           refine zp (i := 20) (N := some 32) (mk_ 21 33) HT_.out ?_
           refine zp (i := 21) (N := some 33) (mk_ 22 33) HT_.out ?_
           refine zp (i := 22) (N := some 34) (mk_ 23 33) HT_.out ?_
           refine zu (i := 23) (N := some 35) (mk_ 24 33) HT_.out ?_
           refine zu (i := 24) (N := some 36) (mk_ 25 33) HT_.out ?_
           refine zu (i := 25) (N := some 37) (mk_ 26 33) HT_.out ?_
           refine zu (i := 26) (N := some 38) (mk_ 27 33) HT_.out ?_
           refine zu (i := 27) (N := some 39) (mk_ 28 33) HT_.out ?_
           refine zu (i := 28) (N := some 40) (mk_ 29 33) HT_.out ?_
           refine zu (i := 29) (N := some 41) (mk_ 30 33) HT_.out ?_
           refine zp (i := 30) (N := some 42) (mk_ 31 33) HT_.out ?_
           refine zp (i := 31) (N := some 43) (mk_ 32 33) HT_.out ?_
           refine zp (i := 32) (N := some 44) (mk_ 33 33) HT_.out ?_
           refine done_ (done_of HT_.out (by kernel_rfl)) ?_
           try go_wp2
           go_ret
           exact ⟨by first | rfl | (simp [errW_none, errW_some] <;> rfl) | (simp only [← hji13]; first | rfl | (simp [errW_none, errW_some] <;> rfl)) | (simp [*, errW_none, errW_some] <;> rfl), zh1 HB.out GE120.out⟩)
        | (have _ := S2_
           have n0_ : Aside0 ((((wq4.setCell ⟨gb120, 0, none⟩ (.int .i64 ((rd_T48 l0 x7_1).f0))).setCell ⟨gb120, 1, none⟩ (.int .i64 ((rd_T48 l0 x7_1).f1))).setCell ⟨gb120, 2, none⟩ (.int .i64 ((rd_T48 l0 x7_1).f2))).heap[gb120]? = some (.cells #[.int .i64 ((rd_T48 l0 x7_1).f0), .int .i64 ((rd_T48 l0 x7_1).f1), .int .i64 ((rd_T48 l0 x7_1).f2)] 48 (0, 0))) := ⟨by (with_reducible repeat (first | refine blk_drewN ?_ _ | refine blk_drew ?_ | refine blk_alloc ?_ _)); refine blk_put (cs := #[.int .i64 ((rd_T48 l0 x7_1).f0), .int .i64 ((rd_T48 l0 x7_1).f1), .int .i64 0]) ?_ 2 _ rfl; (with_reducible repeat (first | refine blk_drewN ?_ _ | refine blk_drew ?_ | refine blk_alloc ?_ _)); refine blk_put (cs := #[.int .i64 ((rd_T48 l0 x7_1).f0), .int .i64 0, .int .i64 0]) ?_ 1 _ rfl; (with_reducible repeat (first | refine blk_drewN ?_ _ | refine blk_drew ?_ | refine blk_alloc ?_ _)); refine blk_put (cs := #[.int .i64 0, .int .i64 0, .int .i64 0]) ?_ 0 _ rfl; (with_reducible repeat (first | refine blk_drewN ?_ _ | refine blk_drew ?_ | refine blk_alloc ?_ _)); exact BK120.out⟩
           have n1_ : Aside0 (Below w.heap.size w (((wq4.setCell ⟨gb120, 0, none⟩ (.int .i64 ((rd_T48 l0 x7_1).f0))).setCell ⟨gb120, 1, none⟩ (.int .i64 ((rd_T48 l0 x7_1).f1))).setCell ⟨gb120, 2, none⟩ (.int .i64 ((rd_T48 l0 x7_1).f2)))) := ⟨zh1 HB.out GE120.out⟩
           (try clear BK120); (try clear HB)
           generalize (((wq4.setCell ⟨gb120, 0, none⟩ (.int .i64 ((rd_T48 l0 x7_1).f0))).setCell ⟨gb120, 1, none⟩ (.int .i64 ((rd_T48 l0 x7_1).f1))).setCell ⟨gb120, 2, none⟩ (.int .i64 ((rd_T48 l0 x7_1).f2))) = w26 at n0_ n1_ ⊢
           have BK120 := n0_
           have HB := n1_
           clear n0_ n1_
           replace BK120 := Aside0.mk (blk_drew BK120.out)
           replace HB := Aside0.mk (below_drew1 HB.out)
           have p122 : 0 ≤ ((ji13) : Int) := zd
           have q122 : (ji13) < (l0.length : Int) := zd
           obtain ⟨ad122, e122, hx122_0, hx122_1, hx122_2⟩ := at_T48 HR0.out (ji13) p122 q122
           have hw122_2 := hx122_2
           have hw122_1 := hx122_1
           have hw122_0 := hx122_0
           obtain rfl : ad119 = ad122 := (by injection e122)
           replace hx122_0 := pw_cell_below HB.out hx122_0
           replace hx122_1 := pw_cell_below HB.out hx122_1
           replace hx122_2 := pw_cell_below HB.out hx122_2
           replace p122 := eq_true p122
           replace q122 := eq_true q122
           have p123 : 0 ≤ ((ji13) : Int) := zd
           have q123 : (ji13) < (l0.length : Int) := zd
           obtain ⟨ad123, e123, hx123_0, hx123_1, hx123_2⟩ := at_T48 HR0.out (ji13) p123 q123
           have hw123_2 := hx123_2
           have hw123_1 := hx123_1
           have hw123_0 := hx123_0
           obtain rfl : ad119 = ad123 := (by injection e123)
           replace hx123_0 := pw_cell_below HB.out hx123_0
           replace hx123_1 := pw_cell_below HB.out hx123_1
           replace hx123_2 := pw_cell_below HB.out hx123_2
           replace p123 := eq_true p123
           replace q123 := eq_true q123
           have p124 : 0 ≤ ((ji13) : Int) := zd
           have q124 : (ji13) < (l0.length : Int) := zd
           obtain ⟨ad124, e124, hx124_0, hx124_1, hx124_2⟩ := at_T48 HR0.out (ji13) p124 q124
           have hw124_2 := hx124_2
           have hw124_1 := hx124_1
           have hw124_0 := hx124_0
           obtain rfl : ad119 = ad124 := (by injection e124)
           replace hx124_0 := pw_cell_below HB.out hx124_0
           replace hx124_1 := pw_cell_below HB.out hx124_1
           replace hx124_2 := pw_cell_below HB.out hx124_2
           replace p124 := eq_true p124
           replace q124 := eq_true q124
           refine start_ (n := 33) (S := fun w' => w'.cell? ⟨gb120, 0, none⟩ = some (.int .i64 ((rd_T48 l0 x7_1).f0)) ∧ w'.cell? ⟨gb120, 1, none⟩ = some (.int .i64 ((rd_T48 l0 x7_1).f1)) ∧ w'.cell? ⟨gb120, 2, none⟩ = some (.int .i64 ((rd_T48 l0 x7_1).f2)) ∧ w'.cell? (ad119.add (((ji13)).toNat * 3)) = some (.int .i64 ((rd_T48 l0 (ji13)).f0)) ∧ w'.cell? ⟨(ad119.add (((ji13)).toNat * 3)).block, (ad119.add (((ji13)).toNat * 3)).off + 1, none⟩ = some (.int .i64 ((rd_T48 l0 (ji13)).f1)) ∧ w'.cell? ⟨(ad119.add (((ji13)).toNat * 3)).block, (ad119.add (((ji13)).toNat * 3)).off + 2, none⟩ = some (.int .i64 ((rd_T48 l0 (ji13)).f2)) ∧ w'.cell? (ad119.add (((ji13)).toNat * 3)) = some (.int .i64 ((rd_T48 l0 (ji13)).f0)) ∧ w'.cell? ⟨(ad119.add (((ji13)).toNat * 3)).block, (ad119.add (((ji13)).toNat * 3)).off + 1, none⟩ = some (.int .i64 ((rd_T48 l0 (ji13)).f1)) ∧ w'.cell? ⟨(ad119.add (((ji13)).toNat * 3)).block, (ad119.add (((ji13)).toNat * 3)).off + 2, none⟩ = some (.int .i64 ((rd_T48 l0 (ji13)).f2)) ∧ w'.cell? (ad119.add (((ji13)).toNat * 3)) = some (.int .i64 ((rd_T48 l0 (ji13)).f0)) ∧ w'.cell? ⟨(ad119.add (((ji13)).toNat * 3)).block, (ad119.add (((ji13)).toNat * 3)).off + 1, none⟩ = some (.int .i64 ((rd_T48 l0 (ji13)).f1)) ∧ w'.cell? ⟨(ad119.add (((ji13)).toNat * 3)).block, (ad119.add (((ji13)).toNat * 3)).off + 2, none⟩ = some (.int .i64 ((rd_T48 l0 (ji13)).f2))) (ds := []) (mk_ 0 33) (by kernel_rfl) rfl rfl ⟨(blk_cell BK120.out 0).trans rfl, (blk_cell BK120.out 1).trans rfl, (blk_cell BK120.out 2).trans rfl, (pw_cell_below HB.out hw122_0), (pw_cell_below HB.out hw122_1), (pw_cell_below HB.out hw122_2), (pw_cell_below HB.out hw123_0), (pw_cell_below HB.out hw123_1), (pw_cell_below HB.out hw123_2), (pw_cell_below HB.out hw124_0), (pw_cell_below HB.out hw124_1), (pw_cell_below HB.out hw124_2)⟩ (fun hHeld => ?_); refine with_tabW spans_Right.tab4 spans_Right.bits4 (fun HT_ HW_ => ?_)
           generalize w26.drew = w27 at BK120 HB hx122_0 hx122_1 hx122_2 hx123_0 hx123_1 hx123_2 hx124_0 hx124_1 hx124_2 hHeld ⊢
           refine take_ (i := 0) (N := some 12) (v := ?_) (a' := ?_) (mk_ 1 33) rfl rfl (take_ofW HT_.out HW_.out (by kernel_rfl)) (fun _ _ _ h => h) (Or.inl ⟨by rfl, ?_⟩) hHeld ?_ ?_
           rotate_left
           · rintro w' ⟨s0, s1, s2, s3, s4, s5, s6, s7, s8, s9, s10, s11⟩
             go_simp
             with_reducible rfl
           rotate_left
           · simp only [Act.put, zi, zi0, zi1, i64_w, i32_w]
             rfl
           refine one_ (i := 1) (N := some 13) (mk_ 2 33) rfl rfl (one_of HT_.out (by kernel_rfl)) (by decide) (fun K hK => ?_)
           refine zgo Try.func51 #[.agg #[.int .i64 ((rd_T48 l0 x7_1).f0), .int .i64 ((rd_T48 l0 x7_1).f1), .int .i64 ((rd_T48 l0 x7_1).f2)]] ?_
           with_reducible refine (spans_odd.calls ((rd_T48 l0 x7_1).f0) ((rd_T48 l0 x7_1).f1) ((rd_T48 l0 x7_1).f2) false _ Aq0.out).mono ?_
           rintro e w28 ⟨rfl, hb⟩
           refine ⟨_, rfl, ?_⟩
           replace BK120 := Aside0.mk (zB BK120.out hb)
           replace HB := Aside0.mk (below_step (zh1 HB.out GE120.out) hb)
           (try clear hb); (try clear hb2)
           (try clear hk); (try clear hi)
           refine hK.out _ _ ⟨(blk_cell BK120.out 0).trans rfl, (blk_cell BK120.out 1).trans rfl, (blk_cell BK120.out 2).trans rfl, (pw_cell_below HB.out hw122_0), (pw_cell_below HB.out hw122_1), (pw_cell_below HB.out hw122_2), (pw_cell_below HB.out hw123_0), (pw_cell_below HB.out hw123_1), (pw_cell_below HB.out hw123_2), (pw_cell_below HB.out hw124_0), (pw_cell_below HB.out hw124_1), (pw_cell_below HB.out hw124_2)⟩ (fun hHeld => ?_)
           clear hK K
           refine zn (some 13) ?_
           refine zp (i := 2) (N := some 14) (mk_ 3 33) HT_.out ?_
           refine zp (i := 3) (N := some 15) (mk_ 4 33) HT_.out ?_
           refine zp (i := 4) (N := some 16) (mk_ 5 33) HT_.out ?_
           refine zp (i := 5) (N := some 17) (mk_ 6 33) HT_.out ?_
           refine zp (i := 6) (N := some 18) (mk_ 7 33) HT_.out ?_
           refine zp (i := 8) (N := some 20) #[true, true, true, true, true, true, true, false, true, false, false, false, false, false, false, false, false, false, false, false, false, false, false, false, false, false, false, false, false, false, false, false, false] HT_.out ?_
           refine zp (i := 9) (N := some 21) #[true, true, true, true, true, true, true, false, true, true, false, false, false, false, false, false, false, false, false, false, false, false, false, false, false, false, false, false, false, false, false, false, false] HT_.out ?_
           refine zp (i := 10) (N := some 22) #[true, true, true, true, true, true, true, false, true, true, true, false, false, false, false, false, false, false, false, false, false, false, false, false, false, false, false, false, false, false, false, false, false] HT_.out ?_
           refine zp (i := 11) (N := some 23) #[true, true, true, true, true, true, true, false, true, true, true, true, false, false, false, false, false, false, false, false, false, false, false, false, false, false, false, false, false, false, false, false, false] HT_.out ?_
           refine zp (i := 12) (N := some 24) #[true, true, true, true, true, true, true, false, true, true, true, true, true, false, false, false, false, false, false, false, false, false, false, false, false, false, false, false, false, false, false, false, false] HT_.out ?_
           refine zp (i := 14) (N := some 26) #[true, true, true, true, true, true, true, false, true, true, true, true, true, false, true, false, false, false, false, false, false, false, false, false, false, false, false, false, false, false, false, false, false] HT_.out ?_
           refine zp (i := 15) (N := some 27) #[true, true, true, true, true, true, true, false, true, true, true, true, true, false, true, true, false, false, false, false, false, false, false, false, false, false, false, false, false, false, false, false, false] HT_.out ?_
           refine zp (i := 16) (N := some 28) #[true, true, true, true, true, true, true, false, true, true, true, true, true, false, true, true, true, false, false, false, false, false, false, false, false, false, false, false, false, false, false, false, false] HT_.out ?_
           refine zp (i := 17) (N := some 29) #[true, true, true, true, true, true, true, false, true, true, true, true, true, false, true, true, true, true, false, false, false, false, false, false, false, false, false, false, false, false, false, false, false] HT_.out ?_
           refine zp (i := 18) (N := some 30) #[true, true, true, true, true, true, true, false, true, true, true, true, true, false, true, true, true, true, true, false, false, false, false, false, false, false, false, false, false, false, false, false, false] HT_.out ?_
           refine take_ (i := 7) (N := some 19) (v := ?_) (a' := ?_) #[true, true, true, true, true, true, true, true, true, true, true, true, true, false, true, true, true, true, true, false, false, false, false, false, false, false, false, false, false, false, false, false, false] rfl rfl (take_ofW HT_.out HW_.out (by kernel_rfl)) (fun _ _ _ h => h) (Or.inl ⟨by rfl, ?_⟩) hHeld ?_ ?_
           rotate_left
           · rintro w' ⟨s0, s1, s2, s3, s4, s5, s6, s7, s8, s9, s10, s11⟩
             go_simp
             with_reducible rfl
           rotate_left
           · simp only [Act.put, zi, zi0, zi1, i64_w, i32_w]
             rfl
           refine take_ (i := 13) (N := some 25) (v := ?_) (a' := ?_) (mk_ 19 33) rfl rfl (take_ofW HT_.out HW_.out (by kernel_rfl)) (fun _ _ _ h => h) (Or.inl ⟨by rfl, ?_⟩) hHeld ?_ ?_
           rotate_left
           · rintro w' ⟨s0, s1, s2, s3, s4, s5, s6, s7, s8, s9, s10, s11⟩
             go_simp
             with_reducible rfl
           rotate_left
           · simp only [Act.put, zi, zi0, zi1, i64_w, i32_w]
             rfl
           refine take_ (i := 19) (N := some 31) (v := ?_) (a' := ?_) (mk_ 20 33) rfl rfl (take_ofW HT_.out HW_.out (by kernel_rfl)) (fun _ _ _ h => h) (Or.inl ⟨by rfl, ?_⟩) hHeld ?_ ?_
           rotate_left
           · rintro w' ⟨s0, s1, s2, s3, s4, s5, s6, s7, s8, s9, s10, s11⟩
             go_simp
             with_reducible rfl
           rotate_left
           · simp only [Act.put, zi, zi0, zi1, i64_w, i32_w]
             rfl
           refine zp (i := 20) (N := some 32) (mk_ 21 33) HT_.out ?_
           refine zp (i := 21) (N := some 33) (mk_ 22 33) HT_.out ?_
           refine zp (i := 22) (N := some 34) (mk_ 23 33) HT_.out ?_
           refine zp (i := 23) (N := some 35) (mk_ 24 33) HT_.out ?_
           refine zp (i := 24) (N := some 36) (mk_ 25 33) HT_.out ?_
           refine zp (i := 25) (N := some 37) (mk_ 26 33) HT_.out ?_
           refine zp (i := 26) (N := some 38) (mk_ 27 33) HT_.out ?_
           refine take_ (i := 27) (N := some 39) (v := ?_) (a' := ?_) (mk_ 28 33) rfl rfl (take_ofW HT_.out HW_.out (by kernel_rfl)) (fun _ _ _ h => h) (Or.inl ⟨by rfl, ?_⟩) hHeld ?_ ?_
           rotate_left
           · rintro w' ⟨s0, s1, s2, s3, s4, s5, s6, s7, s8, s9, s10, s11⟩
             go_simp
             with_reducible rfl
           rotate_left
           · simp only [Act.put, zi, zi0, zi1, i64_w, i32_w]
             rfl
           refine take_ (i := 28) (N := some 40) (v := ?_) (a' := ?_) (mk_ 29 33) rfl rfl (take_ofW HT_.out HW_.out (by kernel_rfl)) (fun _ _ _ h => h) (Or.inl ⟨by rfl, ?_⟩) hHeld ?_ ?_
           rotate_left
           · rintro w' ⟨s0, s1, s2, s3, s4, s5, s6, s7, s8, s9, s10, s11⟩
             go_simp
             with_reducible rfl
           rotate_left
           · simp only [Act.put, zi, zi0, zi1, i64_w, i32_w]
             rfl
           refine one_ (i := 29) (N := some 41) (mk_ 30 33) rfl rfl (one_of HT_.out (by kernel_rfl)) (by decide) (fun K hK => ?_)
           refine goes_ Try.func52 (by kernel_rfl) rfl #[.agg #[.int .i64 ((rd_T48 l0 (ji13)).f0), .int .i64 ((rd_T48 l0 (ji13)).f1), .int .i64 ((rd_T48 l0 (ji13)).f2)], .agg #[.int .i64 ((rd_T48 l0 x7_1).f0), .int .i64 ((rd_T48 l0 x7_1).f1), .int .i64 ((rd_T48 l0 x7_1).f2)]] (by rfl) rfl rfl (by (try simp only [List.map_toArray, List.map_cons, List.map_nil]); first | done | (simp only [hji13]; rfl) | rfl | (simp only [List.length_drop, List.length_take]; rfl)) ?_
           with_reducible refine (spans_joins.calls ((rd_T48 l0 (ji13)).f0) ((rd_T48 l0 (ji13)).f1) ((rd_T48 l0 (ji13)).f2) ((rd_T48 l0 x7_1).f0) ((rd_T48 l0 x7_1).f1) ((rd_T48 l0 x7_1).f2) true _ Aq1.out).mono ?_
           rintro e w29 ⟨rfl, hb⟩
           refine ⟨_, rfl, ?_⟩
           replace BK120 := Aside0.mk (zB BK120.out hb)
           replace HB := Aside0.mk (below_step (zh1 HB.out GE120.out) hb)
           (try clear hb); (try clear hb2)
           (try clear hk); (try clear hi)
           refine hK.out _ _ ⟨(blk_cell BK120.out 0).trans rfl, (blk_cell BK120.out 1).trans rfl, (blk_cell BK120.out 2).trans rfl, (pw_cell_below HB.out hw122_0), (pw_cell_below HB.out hw122_1), (pw_cell_below HB.out hw122_2), (pw_cell_below HB.out hw123_0), (pw_cell_below HB.out hw123_1), (pw_cell_below HB.out hw123_2), (pw_cell_below HB.out hw124_0), (pw_cell_below HB.out hw124_1), (pw_cell_below HB.out hw124_2)⟩ (fun hHeld => ?_)
           clear hK K
           refine zn (some 41) ?_
           refine zp (i := 30) (N := some 42) (mk_ 31 33) HT_.out ?_
           refine zp (i := 31) (N := some 43) (mk_ 32 33) HT_.out ?_
           refine zp (i := 32) (N := some 44) (mk_ 33 33) HT_.out ?_
           refine done_ (done_of HT_.out (by kernel_rfl)) ?_
           try go_wp2
           go_ret
           exact ⟨by first | rfl | (simp [errW_none, errW_some] <;> rfl) | (simp only [← hji13]; first | rfl | (simp [errW_none, errW_some] <;> rfl)) | (simp [*, errW_none, errW_some] <;> rfl), zh1 HB.out GE120.out⟩)
        | (have _ := S3_
           have n0_ : Aside0 ((((wq4.setCell ⟨gb120, 0, none⟩ (.int .i64 ((rd_T48 l0 x7_1).f0))).setCell ⟨gb120, 1, none⟩ (.int .i64 ((rd_T48 l0 x7_1).f1))).setCell ⟨gb120, 2, none⟩ (.int .i64 ((rd_T48 l0 x7_1).f2))).heap[gb120]? = some (.cells #[.int .i64 ((rd_T48 l0 x7_1).f0), .int .i64 ((rd_T48 l0 x7_1).f1), .int .i64 ((rd_T48 l0 x7_1).f2)] 48 (0, 0))) := ⟨by (with_reducible repeat (first | refine blk_drewN ?_ _ | refine blk_drew ?_ | refine blk_alloc ?_ _)); refine blk_put (cs := #[.int .i64 ((rd_T48 l0 x7_1).f0), .int .i64 ((rd_T48 l0 x7_1).f1), .int .i64 0]) ?_ 2 _ rfl; (with_reducible repeat (first | refine blk_drewN ?_ _ | refine blk_drew ?_ | refine blk_alloc ?_ _)); refine blk_put (cs := #[.int .i64 ((rd_T48 l0 x7_1).f0), .int .i64 0, .int .i64 0]) ?_ 1 _ rfl; (with_reducible repeat (first | refine blk_drewN ?_ _ | refine blk_drew ?_ | refine blk_alloc ?_ _)); refine blk_put (cs := #[.int .i64 0, .int .i64 0, .int .i64 0]) ?_ 0 _ rfl; (with_reducible repeat (first | refine blk_drewN ?_ _ | refine blk_drew ?_ | refine blk_alloc ?_ _)); exact BK120.out⟩
           have n1_ : Aside0 (Below w.heap.size w (((wq4.setCell ⟨gb120, 0, none⟩ (.int .i64 ((rd_T48 l0 x7_1).f0))).setCell ⟨gb120, 1, none⟩ (.int .i64 ((rd_T48 l0 x7_1).f1))).setCell ⟨gb120, 2, none⟩ (.int .i64 ((rd_T48 l0 x7_1).f2)))) := ⟨zh1 HB.out GE120.out⟩
           (try clear BK120); (try clear HB)
           generalize (((wq4.setCell ⟨gb120, 0, none⟩ (.int .i64 ((rd_T48 l0 x7_1).f0))).setCell ⟨gb120, 1, none⟩ (.int .i64 ((rd_T48 l0 x7_1).f1))).setCell ⟨gb120, 2, none⟩ (.int .i64 ((rd_T48 l0 x7_1).f2))) = w32 at n0_ n1_ ⊢
           have BK120 := n0_
           have HB := n1_
           clear n0_ n1_
           replace BK120 := Aside0.mk (blk_drew BK120.out)
           replace HB := Aside0.mk (below_drew1 HB.out)
           have p122 : 0 ≤ ((ji13) : Int) := zd
           have q122 : (ji13) < (l0.length : Int) := zd
           obtain ⟨ad122, e122, hx122_0, hx122_1, hx122_2⟩ := at_T48 HR0.out (ji13) p122 q122
           have hw122_2 := hx122_2
           have hw122_1 := hx122_1
           have hw122_0 := hx122_0
           obtain rfl : ad119 = ad122 := (by injection e122)
           replace hx122_0 := pw_cell_below HB.out hx122_0
           replace hx122_1 := pw_cell_below HB.out hx122_1
           replace hx122_2 := pw_cell_below HB.out hx122_2
           replace p122 := eq_true p122
           replace q122 := eq_true q122
           have p123 : 0 ≤ ((ji13) : Int) := zd
           have q123 : (ji13) < (l0.length : Int) := zd
           obtain ⟨ad123, e123, hx123_0, hx123_1, hx123_2⟩ := at_T48 HR0.out (ji13) p123 q123
           have hw123_2 := hx123_2
           have hw123_1 := hx123_1
           have hw123_0 := hx123_0
           obtain rfl : ad119 = ad123 := (by injection e123)
           replace hx123_0 := pw_cell_below HB.out hx123_0
           replace hx123_1 := pw_cell_below HB.out hx123_1
           replace hx123_2 := pw_cell_below HB.out hx123_2
           replace p123 := eq_true p123
           replace q123 := eq_true q123
           have p124 : 0 ≤ ((ji13) : Int) := zd
           have q124 : (ji13) < (l0.length : Int) := zd
           obtain ⟨ad124, e124, hx124_0, hx124_1, hx124_2⟩ := at_T48 HR0.out (ji13) p124 q124
           have hw124_2 := hx124_2
           have hw124_1 := hx124_1
           have hw124_0 := hx124_0
           obtain rfl : ad119 = ad124 := (by injection e124)
           replace hx124_0 := pw_cell_below HB.out hx124_0
           replace hx124_1 := pw_cell_below HB.out hx124_1
           replace hx124_2 := pw_cell_below HB.out hx124_2
           replace p124 := eq_true p124
           replace q124 := eq_true q124
           refine start_ (n := 33) (S := fun w' => w'.cell? ⟨gb120, 0, none⟩ = some (.int .i64 ((rd_T48 l0 x7_1).f0)) ∧ w'.cell? ⟨gb120, 1, none⟩ = some (.int .i64 ((rd_T48 l0 x7_1).f1)) ∧ w'.cell? ⟨gb120, 2, none⟩ = some (.int .i64 ((rd_T48 l0 x7_1).f2)) ∧ w'.cell? (ad119.add (((ji13)).toNat * 3)) = some (.int .i64 ((rd_T48 l0 (ji13)).f0)) ∧ w'.cell? ⟨(ad119.add (((ji13)).toNat * 3)).block, (ad119.add (((ji13)).toNat * 3)).off + 1, none⟩ = some (.int .i64 ((rd_T48 l0 (ji13)).f1)) ∧ w'.cell? ⟨(ad119.add (((ji13)).toNat * 3)).block, (ad119.add (((ji13)).toNat * 3)).off + 2, none⟩ = some (.int .i64 ((rd_T48 l0 (ji13)).f2)) ∧ w'.cell? (ad119.add (((ji13)).toNat * 3)) = some (.int .i64 ((rd_T48 l0 (ji13)).f0)) ∧ w'.cell? ⟨(ad119.add (((ji13)).toNat * 3)).block, (ad119.add (((ji13)).toNat * 3)).off + 1, none⟩ = some (.int .i64 ((rd_T48 l0 (ji13)).f1)) ∧ w'.cell? ⟨(ad119.add (((ji13)).toNat * 3)).block, (ad119.add (((ji13)).toNat * 3)).off + 2, none⟩ = some (.int .i64 ((rd_T48 l0 (ji13)).f2)) ∧ w'.cell? (ad119.add (((ji13)).toNat * 3)) = some (.int .i64 ((rd_T48 l0 (ji13)).f0)) ∧ w'.cell? ⟨(ad119.add (((ji13)).toNat * 3)).block, (ad119.add (((ji13)).toNat * 3)).off + 1, none⟩ = some (.int .i64 ((rd_T48 l0 (ji13)).f1)) ∧ w'.cell? ⟨(ad119.add (((ji13)).toNat * 3)).block, (ad119.add (((ji13)).toNat * 3)).off + 2, none⟩ = some (.int .i64 ((rd_T48 l0 (ji13)).f2))) (ds := []) (mk_ 0 33) (by kernel_rfl) rfl rfl ⟨(blk_cell BK120.out 0).trans rfl, (blk_cell BK120.out 1).trans rfl, (blk_cell BK120.out 2).trans rfl, (pw_cell_below HB.out hw122_0), (pw_cell_below HB.out hw122_1), (pw_cell_below HB.out hw122_2), (pw_cell_below HB.out hw123_0), (pw_cell_below HB.out hw123_1), (pw_cell_below HB.out hw123_2), (pw_cell_below HB.out hw124_0), (pw_cell_below HB.out hw124_1), (pw_cell_below HB.out hw124_2)⟩ (fun hHeld => ?_); refine with_tabW spans_Right.tab4 spans_Right.bits4 (fun HT_ HW_ => ?_)
           generalize w32.drew = w33 at BK120 HB hx122_0 hx122_1 hx122_2 hx123_0 hx123_1 hx123_2 hx124_0 hx124_1 hx124_2 hHeld ⊢
           refine take_ (i := 0) (N := some 12) (v := ?_) (a' := ?_) (mk_ 1 33) rfl rfl (take_ofW HT_.out HW_.out (by kernel_rfl)) (fun _ _ _ h => h) (Or.inl ⟨by rfl, ?_⟩) hHeld ?_ ?_
           rotate_left
           · rintro w' ⟨s0, s1, s2, s3, s4, s5, s6, s7, s8, s9, s10, s11⟩
             go_simp
             with_reducible rfl
           rotate_left
           · simp only [Act.put, zi, zi0, zi1, i64_w, i32_w]
             rfl
           refine one_ (i := 1) (N := some 13) (mk_ 2 33) rfl rfl (one_of HT_.out (by kernel_rfl)) (by decide) (fun K hK => ?_)
           refine zgo Try.func51 #[.agg #[.int .i64 ((rd_T48 l0 x7_1).f0), .int .i64 ((rd_T48 l0 x7_1).f1), .int .i64 ((rd_T48 l0 x7_1).f2)]] ?_
           with_reducible refine (spans_odd.calls ((rd_T48 l0 x7_1).f0) ((rd_T48 l0 x7_1).f1) ((rd_T48 l0 x7_1).f2) false _ Aq0.out).mono ?_
           rintro e w34 ⟨rfl, hb⟩
           refine ⟨_, rfl, ?_⟩
           replace BK120 := Aside0.mk (zB BK120.out hb)
           replace HB := Aside0.mk (below_step (zh1 HB.out GE120.out) hb)
           (try clear hb); (try clear hb2)
           (try clear hk); (try clear hi)
           refine hK.out _ _ ⟨(blk_cell BK120.out 0).trans rfl, (blk_cell BK120.out 1).trans rfl, (blk_cell BK120.out 2).trans rfl, (pw_cell_below HB.out hw122_0), (pw_cell_below HB.out hw122_1), (pw_cell_below HB.out hw122_2), (pw_cell_below HB.out hw123_0), (pw_cell_below HB.out hw123_1), (pw_cell_below HB.out hw123_2), (pw_cell_below HB.out hw124_0), (pw_cell_below HB.out hw124_1), (pw_cell_below HB.out hw124_2)⟩ (fun hHeld => ?_)
           clear hK K
           refine zn (some 13) ?_
           refine zp (i := 2) (N := some 14) (mk_ 3 33) HT_.out ?_
           refine zp (i := 3) (N := some 15) (mk_ 4 33) HT_.out ?_
           refine zp (i := 4) (N := some 16) (mk_ 5 33) HT_.out ?_
           refine zp (i := 5) (N := some 17) (mk_ 6 33) HT_.out ?_
           refine zp (i := 6) (N := some 18) (mk_ 7 33) HT_.out ?_
           refine zp (i := 8) (N := some 20) #[true, true, true, true, true, true, true, false, true, false, false, false, false, false, false, false, false, false, false, false, false, false, false, false, false, false, false, false, false, false, false, false, false] HT_.out ?_
           refine zp (i := 9) (N := some 21) #[true, true, true, true, true, true, true, false, true, true, false, false, false, false, false, false, false, false, false, false, false, false, false, false, false, false, false, false, false, false, false, false, false] HT_.out ?_
           refine zp (i := 10) (N := some 22) #[true, true, true, true, true, true, true, false, true, true, true, false, false, false, false, false, false, false, false, false, false, false, false, false, false, false, false, false, false, false, false, false, false] HT_.out ?_
           refine zp (i := 11) (N := some 23) #[true, true, true, true, true, true, true, false, true, true, true, true, false, false, false, false, false, false, false, false, false, false, false, false, false, false, false, false, false, false, false, false, false] HT_.out ?_
           refine zp (i := 12) (N := some 24) #[true, true, true, true, true, true, true, false, true, true, true, true, true, false, false, false, false, false, false, false, false, false, false, false, false, false, false, false, false, false, false, false, false] HT_.out ?_
           refine zp (i := 14) (N := some 26) #[true, true, true, true, true, true, true, false, true, true, true, true, true, false, true, false, false, false, false, false, false, false, false, false, false, false, false, false, false, false, false, false, false] HT_.out ?_
           refine zp (i := 15) (N := some 27) #[true, true, true, true, true, true, true, false, true, true, true, true, true, false, true, true, false, false, false, false, false, false, false, false, false, false, false, false, false, false, false, false, false] HT_.out ?_
           refine zp (i := 16) (N := some 28) #[true, true, true, true, true, true, true, false, true, true, true, true, true, false, true, true, true, false, false, false, false, false, false, false, false, false, false, false, false, false, false, false, false] HT_.out ?_
           refine zp (i := 17) (N := some 29) #[true, true, true, true, true, true, true, false, true, true, true, true, true, false, true, true, true, true, false, false, false, false, false, false, false, false, false, false, false, false, false, false, false] HT_.out ?_
           refine zp (i := 18) (N := some 30) #[true, true, true, true, true, true, true, false, true, true, true, true, true, false, true, true, true, true, true, false, false, false, false, false, false, false, false, false, false, false, false, false, false] HT_.out ?_
           refine take_ (i := 7) (N := some 19) (v := ?_) (a' := ?_) #[true, true, true, true, true, true, true, true, true, true, true, true, true, false, true, true, true, true, true, false, false, false, false, false, false, false, false, false, false, false, false, false, false] rfl rfl (take_ofW HT_.out HW_.out (by kernel_rfl)) (fun _ _ _ h => h) (Or.inl ⟨by rfl, ?_⟩) hHeld ?_ ?_
           rotate_left
           · rintro w' ⟨s0, s1, s2, s3, s4, s5, s6, s7, s8, s9, s10, s11⟩
             go_simp
             with_reducible rfl
           rotate_left
           · simp only [Act.put, zi, zi0, zi1, i64_w, i32_w]
             rfl
           refine take_ (i := 13) (N := some 25) (v := ?_) (a' := ?_) (mk_ 19 33) rfl rfl (take_ofW HT_.out HW_.out (by kernel_rfl)) (fun _ _ _ h => h) (Or.inl ⟨by rfl, ?_⟩) hHeld ?_ ?_
           rotate_left
           · rintro w' ⟨s0, s1, s2, s3, s4, s5, s6, s7, s8, s9, s10, s11⟩
             go_simp
             with_reducible rfl
           rotate_left
           · simp only [Act.put, zi, zi0, zi1, i64_w, i32_w]
             rfl
           refine take_ (i := 19) (N := some 31) (v := ?_) (a' := ?_) (mk_ 20 33) rfl rfl (take_ofW HT_.out HW_.out (by kernel_rfl)) (fun _ _ _ h => h) (Or.inl ⟨by rfl, ?_⟩) hHeld ?_ ?_
           rotate_left
           · rintro w' ⟨s0, s1, s2, s3, s4, s5, s6, s7, s8, s9, s10, s11⟩
             go_simp
             with_reducible rfl
           rotate_left
           · simp only [Act.put, zi, zi0, zi1, i64_w, i32_w]
             rfl
           refine zp (i := 20) (N := some 32) (mk_ 21 33) HT_.out ?_
           refine zp (i := 21) (N := some 33) (mk_ 22 33) HT_.out ?_
           refine zp (i := 22) (N := some 34) (mk_ 23 33) HT_.out ?_
           refine zp (i := 23) (N := some 35) (mk_ 24 33) HT_.out ?_
           refine zp (i := 24) (N := some 36) (mk_ 25 33) HT_.out ?_
           refine zp (i := 25) (N := some 37) (mk_ 26 33) HT_.out ?_
           refine zp (i := 26) (N := some 38) (mk_ 27 33) HT_.out ?_
           refine take_ (i := 27) (N := some 39) (v := ?_) (a' := ?_) (mk_ 28 33) rfl rfl (take_ofW HT_.out HW_.out (by kernel_rfl)) (fun _ _ _ h => h) (Or.inl ⟨by rfl, ?_⟩) hHeld ?_ ?_
           rotate_left
           · rintro w' ⟨s0, s1, s2, s3, s4, s5, s6, s7, s8, s9, s10, s11⟩
             go_simp
             with_reducible rfl
           rotate_left
           · simp only [Act.put, zi, zi0, zi1, i64_w, i32_w]
             rfl
           refine take_ (i := 28) (N := some 40) (v := ?_) (a' := ?_) (mk_ 29 33) rfl rfl (take_ofW HT_.out HW_.out (by kernel_rfl)) (fun _ _ _ h => h) (Or.inl ⟨by rfl, ?_⟩) hHeld ?_ ?_
           rotate_left
           · rintro w' ⟨s0, s1, s2, s3, s4, s5, s6, s7, s8, s9, s10, s11⟩
             go_simp
             with_reducible rfl
           rotate_left
           · simp only [Act.put, zi, zi0, zi1, i64_w, i32_w]
             rfl
           refine one_ (i := 29) (N := some 41) (mk_ 30 33) rfl rfl (one_of HT_.out (by kernel_rfl)) (by decide) (fun K hK => ?_)
           refine goes_ Try.func52 (by kernel_rfl) rfl #[.agg #[.int .i64 ((rd_T48 l0 (ji13)).f0), .int .i64 ((rd_T48 l0 (ji13)).f1), .int .i64 ((rd_T48 l0 (ji13)).f2)], .agg #[.int .i64 ((rd_T48 l0 x7_1).f0), .int .i64 ((rd_T48 l0 x7_1).f1), .int .i64 ((rd_T48 l0 x7_1).f2)]] (by rfl) rfl rfl (by (try simp only [List.map_toArray, List.map_cons, List.map_nil]); first | done | (simp only [hji13]; rfl) | rfl | (simp only [List.length_drop, List.length_take]; rfl)) ?_
           with_reducible refine (spans_joins.calls ((rd_T48 l0 (ji13)).f0) ((rd_T48 l0 (ji13)).f1) ((rd_T48 l0 (ji13)).f2) ((rd_T48 l0 x7_1).f0) ((rd_T48 l0 x7_1).f1) ((rd_T48 l0 x7_1).f2) false _ Aq1.out).mono ?_
           rintro e w35 ⟨rfl, hb⟩
           refine ⟨_, rfl, ?_⟩
           replace BK120 := Aside0.mk (zB BK120.out hb)
           replace HB := Aside0.mk (below_step (zh1 HB.out GE120.out) hb)
           (try clear hb); (try clear hb2)
           (try clear hk); (try clear hi)
           refine hK.out _ _ ⟨(blk_cell BK120.out 0).trans rfl, (blk_cell BK120.out 1).trans rfl, (blk_cell BK120.out 2).trans rfl, (pw_cell_below HB.out hw122_0), (pw_cell_below HB.out hw122_1), (pw_cell_below HB.out hw122_2), (pw_cell_below HB.out hw123_0), (pw_cell_below HB.out hw123_1), (pw_cell_below HB.out hw123_2), (pw_cell_below HB.out hw124_0), (pw_cell_below HB.out hw124_1), (pw_cell_below HB.out hw124_2)⟩ (fun hHeld => ?_)
           clear hK K
           refine zn (some 41) ?_
           refine zp (i := 30) (N := some 42) (mk_ 31 33) HT_.out ?_
           refine zp (i := 31) (N := some 43) (mk_ 32 33) HT_.out ?_
           refine zp (i := 32) (N := some 44) (mk_ 33 33) HT_.out ?_
           refine done_ (done_of HT_.out (by kernel_rfl)) ?_
           try go_wp2
           go_roundg k1
           case measure => have := HK1.out; omega
           case rel => exact ⟨(wrap64 (x7_1 + 1)), (zs), H', ⟨by have := HK1.out; omega⟩, ⟨zh1 HB.out GE120.out⟩⟩)
        | (have _ := S4_
           have n0_ : Aside0 ((((wq4.setCell ⟨gb120, 0, none⟩ (.int .i64 ((rd_T48 l0 x7_1).f0))).setCell ⟨gb120, 1, none⟩ (.int .i64 ((rd_T48 l0 x7_1).f1))).setCell ⟨gb120, 2, none⟩ (.int .i64 ((rd_T48 l0 x7_1).f2))).heap[gb120]? = some (.cells #[.int .i64 ((rd_T48 l0 x7_1).f0), .int .i64 ((rd_T48 l0 x7_1).f1), .int .i64 ((rd_T48 l0 x7_1).f2)] 48 (0, 0))) := ⟨by (with_reducible repeat (first | refine blk_drewN ?_ _ | refine blk_drew ?_ | refine blk_alloc ?_ _)); refine blk_put (cs := #[.int .i64 ((rd_T48 l0 x7_1).f0), .int .i64 ((rd_T48 l0 x7_1).f1), .int .i64 0]) ?_ 2 _ rfl; (with_reducible repeat (first | refine blk_drewN ?_ _ | refine blk_drew ?_ | refine blk_alloc ?_ _)); refine blk_put (cs := #[.int .i64 ((rd_T48 l0 x7_1).f0), .int .i64 0, .int .i64 0]) ?_ 1 _ rfl; (with_reducible repeat (first | refine blk_drewN ?_ _ | refine blk_drew ?_ | refine blk_alloc ?_ _)); refine blk_put (cs := #[.int .i64 0, .int .i64 0, .int .i64 0]) ?_ 0 _ rfl; (with_reducible repeat (first | refine blk_drewN ?_ _ | refine blk_drew ?_ | refine blk_alloc ?_ _)); exact BK120.out⟩
           have n1_ : Aside0 (Below w.heap.size w (((wq4.setCell ⟨gb120, 0, none⟩ (.int .i64 ((rd_T48 l0 x7_1).f0))).setCell ⟨gb120, 1, none⟩ (.int .i64 ((rd_T48 l0 x7_1).f1))).setCell ⟨gb120, 2, none⟩ (.int .i64 ((rd_T48 l0 x7_1).f2)))) := ⟨zh1 HB.out GE120.out⟩
           (try clear BK120); (try clear HB)
           generalize (((wq4.setCell ⟨gb120, 0, none⟩ (.int .i64 ((rd_T48 l0 x7_1).f0))).setCell ⟨gb120, 1, none⟩ (.int .i64 ((rd_T48 l0 x7_1).f1))).setCell ⟨gb120, 2, none⟩ (.int .i64 ((rd_T48 l0 x7_1).f2))) = w38 at n0_ n1_ ⊢
           have BK120 := n0_
           have HB := n1_
           clear n0_ n1_
           replace BK120 := Aside0.mk (blk_drew BK120.out)
           replace HB := Aside0.mk (below_drew1 HB.out)
           refine start_ (n := 33) (S := fun w' => w'.cell? ⟨gb120, 0, none⟩ = some (.int .i64 ((rd_T48 l0 x7_1).f0)) ∧ w'.cell? ⟨gb120, 1, none⟩ = some (.int .i64 ((rd_T48 l0 x7_1).f1)) ∧ w'.cell? ⟨gb120, 2, none⟩ = some (.int .i64 ((rd_T48 l0 x7_1).f2))) (ds := []) (mk_ 0 33) (by kernel_rfl) rfl rfl ⟨(blk_cell BK120.out 0).trans rfl, (blk_cell BK120.out 1).trans rfl, (blk_cell BK120.out 2).trans rfl⟩ (fun hHeld => ?_); refine with_tabW spans_Right.tab4 spans_Right.bits4 (fun HT_ HW_ => ?_)
           generalize w38.drew = w39 at BK120 HB hHeld ⊢
           refine take_ (i := 0) (N := some 12) (v := ?_) (a' := ?_) (mk_ 1 33) rfl rfl (take_ofW HT_.out HW_.out (by kernel_rfl)) (fun _ _ _ h => h) (Or.inl ⟨by rfl, ?_⟩) hHeld ?_ ?_
           rotate_left
           · rintro w' ⟨s0, s1, s2⟩
             go_simp
             with_reducible rfl
           rotate_left
           · simp only [Act.put, zi, zi0, zi1, i64_w, i32_w]
             rfl
           refine one_ (i := 1) (N := some 13) (mk_ 2 33) rfl rfl (one_of HT_.out (by kernel_rfl)) (by decide) (fun K hK => ?_)
           refine zgo Try.func51 #[.agg #[.int .i64 ((rd_T48 l0 x7_1).f0), .int .i64 ((rd_T48 l0 x7_1).f1), .int .i64 ((rd_T48 l0 x7_1).f2)]] ?_
           with_reducible refine (spans_odd.calls ((rd_T48 l0 x7_1).f0) ((rd_T48 l0 x7_1).f1) ((rd_T48 l0 x7_1).f2) false _ Aq0.out).mono ?_
           rintro e w40 ⟨rfl, hb⟩
           refine ⟨_, rfl, ?_⟩
           replace BK120 := Aside0.mk (zB BK120.out hb)
           replace HB := Aside0.mk (below_step (zh1 HB.out GE120.out) hb)
           (try clear hb); (try clear hb2)
           (try clear hk); (try clear hi)
           refine hK.out _ _ ⟨(blk_cell BK120.out 0).trans rfl, (blk_cell BK120.out 1).trans rfl, (blk_cell BK120.out 2).trans rfl⟩ (fun hHeld => ?_)
           clear hK K
           refine zn (some 13) ?_
           refine zp (i := 2) (N := some 14) (mk_ 3 33) HT_.out ?_
           refine zp (i := 3) (N := some 15) (mk_ 4 33) HT_.out ?_
           refine zp (i := 4) (N := some 16) (mk_ 5 33) HT_.out ?_
           refine zp (i := 5) (N := some 17) (mk_ 6 33) HT_.out ?_
           refine zu (i := 6) (N := some 18) (mk_ 7 33) HT_.out ?_
           refine zu (i := 7) (N := some 19) (mk_ 8 33) HT_.out ?_
           refine zu (i := 8) (N := some 20) (mk_ 9 33) HT_.out ?_
           refine zu (i := 9) (N := some 21) (mk_ 10 33) HT_.out ?_
           refine zu (i := 10) (N := some 22) (mk_ 11 33) HT_.out ?_
           refine zu (i := 11) (N := some 23) (mk_ 12 33) HT_.out ?_
           refine zu (i := 12) (N := some 24) (mk_ 13 33) HT_.out ?_
           refine zu (i := 13) (N := some 25) (mk_ 14 33) HT_.out ?_
           refine zu (i := 14) (N := some 26) (mk_ 15 33) HT_.out ?_
           refine zu (i := 15) (N := some 27) (mk_ 16 33) HT_.out ?_
           refine zu (i := 16) (N := some 28) (mk_ 17 33) HT_.out ?_
           refine zu (i := 17) (N := some 29) (mk_ 18 33) HT_.out ?_
           refine zu (i := 18) (N := some 30) (mk_ 19 33) HT_.out ?_
           refine zu (i := 19) (N := some 31) (mk_ 20 33) HT_.out ?_
           refine zu (i := 20) (N := some 32) (mk_ 21 33) HT_.out ?_
           refine zu (i := 21) (N := some 33) (mk_ 22 33) HT_.out ?_
           refine zu (i := 22) (N := some 34) (mk_ 23 33) HT_.out ?_
           refine zu (i := 23) (N := some 35) (mk_ 24 33) HT_.out ?_
           refine zu (i := 24) (N := some 36) (mk_ 25 33) HT_.out ?_
           refine zu (i := 25) (N := some 37) (mk_ 26 33) HT_.out ?_
           refine zu (i := 26) (N := some 38) (mk_ 27 33) HT_.out ?_
           refine zu (i := 27) (N := some 39) (mk_ 28 33) HT_.out ?_
           refine zu (i := 28) (N := some 40) (mk_ 29 33) HT_.out ?_
           refine zu (i := 29) (N := some 41) (mk_ 30 33) HT_.out ?_
           refine zu (i := 30) (N := some 42) (mk_ 31 33) HT_.out ?_
           refine zp (i := 31) (N := some 43) (mk_ 32 33) HT_.out ?_
           refine zp (i := 32) (N := some 44) (mk_ 33 33) HT_.out ?_
           refine done_ (done_of HT_.out (by kernel_rfl)) ?_
           try go_wp2
           go_roundg k1
           case measure => have := HK1.out; omega
           case rel => exact ⟨(wrap64 (x7_1 + 1)), (zs), H', ⟨by have := HK1.out; omega⟩, ⟨zh1 HB.out GE120.out⟩⟩))
     | (have _ := C1_
        go_wp2
        go_ret
        exact ⟨ze, zh0 HB.out⟩))

end Go.Proofs.Ytgigoogekimgkaa.GCrd
