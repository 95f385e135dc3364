/- printed for this claim by gprint.py, a program of this session, that drives the kit's printer. -/
import Derived.Test.YtgigoogekimgkaaGCrdx0
import Derived.Test.YtgigoogekimgkaaZ
namespace Go.Proofs.Ytgigoogekimgkaa.GCrd
open Go.RowKit Go.Proofs.YtgigoogekimgkaaW.PrintWords Go.Proofs.YtgigoogekimgkaaW.PrintLast Go.Proofs.YtgigoogekimgkaaW.PrintMore
attribute [local go_sem] max2_int min2_int max_two min_two max_three min_three max_four min_four   -- for this text's walks alone
set_option linter.unusedVariables false
set_option linter.unusedSimpArgs false

/-! ### cards_values: function 26 -/
def cards_values.l0 : Nat → List Int → Int → Int → Int → Int → Int → List Int → Int → Int → List (S48) → Int → Option (List Int)
 | 0, _, _, _, _, _, _, _, _, _, _, _ => none
 | k + 1, x3, x34, x184000, x184001, x184002, x184003, x184004, x184005, x184006, x184007, x184008 => if x34 < 3 then (if x34 < (x184007.length : Int) then (if 0 ≤ x34 then ((some (([(rd_T48 x184007 x34).f0, (rd_T48 x184007 x34).f1, (rd_T48 x184007 x34).f2] : List Int) : List Int)).bind fun y201 => (if x3.length + y201.length < 17592186044416 then (cards_values.l0 k (x3 ++ y201) (wrap64 (x34 + 1)) x184000 x184001 x184002 x184003 x184004 x184005 x184006 x184007 x184008) else (none))) else (none)) else ((some (([0, 0, 0] : List Int) : List Int)).bind fun y207 => (if x3.length + y207.length < 17592186044416 then (cards_values.l0 k (x3 ++ y207) (wrap64 (x34 + 1)) x184000 x184001 x184002 x184003 x184004 x184005 x184006 x184007 x184008) else (none)))) else (if x3.length < 17592186044416 then (some (x3 ++ [x184008])) else (none))
def cards_values.f (k : Nat) (a0_0 : Int) (a0_1 : Int) (a0_2 : Int) (a0_3 : Int) (l0_4 : List Int) (a0_5 : Int) (a0_6 : Int) (l0_7 : List (S48)) (a0_8 : Int) : Option (List Int) := (some (([a0_0, a0_1, a0_2, a0_3] : List Int) : List Int)).bind fun y184 => (if a0_0 = 1 then (if y184.length + l0_4.length < 17592186044416 then ((some (y184 ++ l0_4 : List Int)).bind fun y187 => ((some (([a0_5, a0_6] : List Int) : List Int)).bind fun y190 => (if y187.length + y190.length < 17592186044416 then (some (y187 ++ y190)) else (none)))) else (none)) else (if y184.length < 17592186044416 then (cards_values.l0 k (y184 ++ [(l0_7.length : Int)]) 0 a0_0 a0_1 a0_2 a0_3 l0_4 a0_5 a0_6 l0_7 a0_8) else (none)))
theorem cards_values.mono_l : ∀ k, (∀ y0 y1 y2 y3 y4 y5 y6 y7 y8 y9 y10, LeO (cards_values.l0 k y0 y1 y2 y3 y4 y5 y6 y7 y8 y9 y10) (cards_values.l0 (k + 1) y0 y1 y2 y3 y4 y5 y6 y7 y8 y9 y10))
 | 0 => fun _ _ _ _ _ _ _ _ _ _ _ r h => by simp [cards_values.l0] at h
 | k + 1 => by
   have ih0 := cards_values.mono_l k
   · intro y0 y1 y2 y3 y4 y5 y6 y7 y8 y9 y10
     unfold cards_values.l0
     repeat' first
     | (with_reducible exact ih0 _ _ _ _ _ _ _ _ _ _ _)
     | (with_reducible exact LeO.refl _)
     | (with_reducible exact LeO.none _)
     | (with_reducible refine LeO.ite ?_ ?_)
     | (with_reducible refine LeO.bind ?_ (fun _ => ?_))
     | exact ih0 _ _ _ _ _ _ _ _ _ _ _
     | exact LeO.none _
     | refine LeO.ite ?_ ?_
     | refine LeO.bind ?_ (fun _ => ?_)
theorem cards_values.mono : ∀ a0 a1 a2 a3 a4 a5 a6 a7 a8 k, LeO (cards_values.f k a0 a1 a2 a3 a4 a5 a6 a7 a8) (cards_values.f (k + 1) a0 a1 a2 a3 a4 a5 a6 a7 a8) := by
 intro a0 a1 a2 a3 a4 a5 a6 a7 a8 k
 have ih0 := cards_values.mono_l k
 unfold cards_values.f
 repeat' first
  | (with_reducible exact ih0 _ _ _ _ _ _ _ _ _ _ _)
  | (with_reducible exact LeO.refl _)
  | (with_reducible exact LeO.none _)
  | (with_reducible refine LeO.ite ?_ ?_)
  | (with_reducible refine LeO.bind ?_ (fun _ => ?_))
  | exact ih0 _ _ _ _ _ _ _ _ _ _ _
  | exact LeO.none _
  | refine LeO.ite ?_ ?_
  | refine LeO.bind ?_ (fun _ => ?_)
def cards_values.T3 : Bool × List (List Nat × List Nat) := (true, [([], []), ([], []), ([1], [1]), ([0, 2], [0, 2]), ([], []), ([4], [4]), ([], []), ([6], [6]), ([5, 7], [5, 7]), ([3, 8, 3], [3, 8]), ([9, 9, 0, 1, 2, 3, 4, 5, 6, 7, 8, 9], [9])])
def cards_values.B3 : List Nat := [0, 0, 2, 7, 0, 16, 0, 64, 240, 511, 1023]
theorem cards_values.tab3 : rtab .any (opsOf Try.f26 3) = cards_values.T3 := by kernel_rfl
theorem cards_values.bits3 : waitsOk cards_values.T3.2 cards_values.B3 = true := by kernel_rfl
set_option maxHeartbeats 8000000 in
set_option maxRecDepth 100000 in
theorem cards_values.calls (k : Nat) (a0_0 : Int) (a0_1 : Int) (a0_2 : Int) (a0_3 : Int) (A0_4 : Option Addr) (c0_4 : Nat) (l0_4 : List Int) (a0_5 : Int) (a0_6 : Int) (A0_7 : Option Addr) (c0_7 : Nat) (l0_7 : List (S48)) (a0_8 : Int) (r : List Int) (w : World) (hr0_4 : Kd.C (Kd.int .i64) w A0_4 l0_4.length l0_4) (hc0_4 : l0_4.length ≤ c0_4) (hr0_7 : Kd.C k48 w A0_7 l0_7.length l0_7) (hc0_7 : l0_7.length ≤ c0_7) (h : cards_values.f k a0_0 a0_1 a0_2 a0_3 l0_4 a0_5 a0_6 l0_7 a0_8 = some r) :
 Calls Try.prog 26 #[.agg #[.int .i64 a0_0, .int .i64 a0_1, .int .i64 a0_2, .int .i64 a0_3, .slice A0_4 l0_4.length c0_4, .int .i64 a0_5, .int .i64 a0_6, .slice A0_7 l0_7.length c0_7, .int .i64 a0_8]] w fun e w' => ∃ v0_ : Value, e = .returned (v0_) ∧ Kd.R (Kd.int .i64) 3 w' w.heap.size (fun _ => True) v0_ r ∧ Below w.heap.size w w' := by
 have hu25 := Try.underlying25
 have hu48 := Try.underlying48
 have HR0_4 := Aside0.mk hr0_4
 have HC0_4 := Aside0.mk hc0_4
 clear hr0_4 hc0_4
 have HR0_7 := Aside0.mk hr0_7
 have HC0_7 := Aside0.mk hc0_7
 clear hr0_7 hc0_7
 have HB := Aside0.mk (Below.refl w.heap.size w)
 have H : ((some (([a0_0, a0_1, a0_2, a0_3] : List Int) : List Int)).bind fun y184 => (if a0_0 = 1 then (if y184.length + l0_4.length < 17592186044416 then ((some (y184 ++ l0_4 : List Int)).bind fun y187 => ((some (([a0_5, a0_6] : List Int) : List Int)).bind fun y190 => (if y187.length + y190.length < 17592186044416 then (some (y187 ++ y190)) else (none)))) else (none)) else (if y184.length < 17592186044416 then (cards_values.l0 k (y184 ++ [(l0_7.length : Int)]) 0 a0_0 a0_1 a0_2 a0_3 l0_4 a0_5 a0_6 l0_7 a0_8) else (none)))) = some r := h
 clear h
 obtain ⟨y184, hy184⟩ : ∃ y_ : List Int, y_ = (([a0_0, a0_1, a0_2, a0_3] : List Int)) := ⟨_, rfl⟩
 replace H : (if a0_0 = 1 then (if y184.length + l0_4.length < 17592186044416 then ((some (y184 ++ l0_4 : List Int)).bind fun y187 => ((some (([a0_5, a0_6] : List Int) : List Int)).bind fun y190 => (if y187.length + y190.length < 17592186044416 then (some (y187 ++ y190)) else (none)))) else (none)) else (if y184.length < 17592186044416 then (cards_values.l0 k (y184 ++ [(l0_7.length : Int)]) 0 a0_0 a0_1 a0_2 a0_3 l0_4 a0_5 a0_6 l0_7 a0_8) else (none))) = some r := by first | (rw [hy184]; with_reducible exact H) | (have H2_ := (Option.bind_some _ _).symm.trans H; rw [hy184]; with_reducible exact H2_) | (have H2_ := (Option.bind_some _ _).symm.trans H; with_reducible exact H2_) | with_reducible exact H | (rw [hy184]; exact H) | exact H
 have Ny184 := Aside0.mk hy184
 clear hy184
 by_cases c2 : a0_0 = 1
 · rw [if_pos c2] at H
   have c2b0 : (a0_0 == 1) = true := beq_iff_eq.mpr c2
   have c2b1 : (a0_0 != 1) = false := bne_eq_false_iff_eq.mpr c2
   clear c2
   by_cases c3 : y184.length + l0_4.length < 17592186044416
   · rw [if_pos c3] at H
     have LMc3 := Aside0.mk c3
     clear c3
     obtain ⟨y187, hy187⟩ : ∃ y_ : List Int, y_ = (y184 ++ l0_4) := ⟨_, rfl⟩
     replace H : ((some (([a0_5, a0_6] : List Int) : List Int)).bind fun y190 => (if y187.length + y190.length < 17592186044416 then (some (y187 ++ y190)) else (none))) = some r := by first | (rw [hy187]; with_reducible exact H) | (have H2_ := (Option.bind_some _ _).symm.trans H; rw [hy187]; with_reducible exact H2_) | (have H2_ := (Option.bind_some _ _).symm.trans H; with_reducible exact H2_) | with_reducible exact H | (rw [hy187]; exact H) | exact H
     have Ny187 := Aside0.mk hy187
     clear hy187
     obtain ⟨y190, hy190⟩ : ∃ y_ : List Int, y_ = (([a0_5, a0_6] : List Int)) := ⟨_, rfl⟩
     replace H : (if y187.length + y190.length < 17592186044416 then (some (y187 ++ y190)) else (none)) = some r := by first | (rw [hy190]; with_reducible exact H) | (have H2_ := (Option.bind_some _ _).symm.trans H; rw [hy190]; with_reducible exact H2_) | (have H2_ := (Option.bind_some _ _).symm.trans H; with_reducible exact H2_) | with_reducible exact H | (rw [hy190]; exact H) | exact H
     have Ny190 := Aside0.mk hy190
     clear hy190
     by_cases c4 : y187.length + y190.length < 17592186044416
     · rw [if_pos c4] at H
       have LMc4 := Aside0.mk c4
       clear c4
       obtain ⟨y193, hy193⟩ : ∃ y_ : List Int, y_ = (y187 ++ y190) := ⟨_, rfl⟩
       replace H : (some y193) = some r := by first | (rw [hy193]; with_reducible exact H) | (have H2_ := (Option.bind_some _ _).symm.trans H; rw [hy193]; with_reducible exact H2_) | (have H2_ := (Option.bind_some _ _).symm.trans H; with_reducible exact H2_) | with_reducible exact H | (rw [hy193]; exact H) | exact H
       have Ny193 := Aside0.mk hy193
       clear hy193
       obtain rfl := Option.some.inj H
       go_enter Try.func26, Try.ntmps26
       try go_wp2_with (first | ((with_reducible refine gate_dst (N := 1) rfl ?_); refine zbx (N := 1) (cs := #[.int .i64 a0_0, .int .i64 a0_1, .int .i64 a0_2, .int .i64 a0_3, .slice A0_4 l0_4.length c0_4, .int .i64 a0_5, .int .i64 a0_6, .slice A0_7 l0_7.length c0_7, .int .i64 a0_8]) (t := 25) ?_; intro gb183 hg w5 hbox hb; have BK183 := Aside0.mk (hbox); have GW183 := Aside0.mk ((by rw [hg]; exact (below_size (zh0 HB.out)) : w.heap.size ≤ gb183)); have GE183 := GW183; replace HB := Aside0.mk (below_step (zh0 HB.out) hb); clear hb hbox hg; obtain ⟨hcz6_0, hcz6_1, hcz6_2, hcz6_3, hcz6_4, hcz6_5, hcz6_6, hcz6_7, hcz6_8⟩ := cells9 BK183.out; obtain ⟨hfz6_0, hfz6_1, hfz6_2, hfz6_3, hfz6_4, hfz6_5, hfz6_6, hfz6_7, hfz6_8⟩ := frozen9 BK183.out) | ((with_reducible refine gate_dst (N := 14) rfl ?_); refine Kd.R_lit (Kd.int .i64) _ 3 ?hg (N := 14) ?hd (xs := ([a0_0, a0_1, a0_2, a0_3] : List Int)) (inner := [.int .i64 a0_0, .int .i64 a0_1, .int .i64 a0_2, .int .i64 a0_3]) (ok := fun _ => True) (okp := fun _ => True) ?hr ?hp (fun _ hk => hk) trivial (Below.refl _ _) (Nat.le_refl _) (by simp) ?_; (case hd => rfl); (case hg => rfl); (case hr => first | (go_simp; done) | (go_simp; rfl)); (case hp => exact (Reps.one (show Kd.M (Kd.int .i64) _ _ _ a0_0 [.int .i64 a0_0] from rfl) (Reps.one (show Kd.M (Kd.int .i64) _ _ _ a0_1 [.int .i64 a0_1] from rfl) (Reps.one (show Kd.M (Kd.int .i64) _ _ _ a0_2 [.int .i64 a0_2] from rfl) (Reps.one (show Kd.M (Kd.int .i64) _ _ _ a0_3 [.int .i64 a0_3] from rfl) (Reps.none _ _)))))); intro v185 w7 ho8 hb hg_ hnew_; clear hg_ hnew_; (first | rw [← Ny184.out] at ho8 | (simp only [Int.reduceToNat] at ho8; rw [← Ny184.out] at ho8)); have HO186 := Aside0.mk (Kd.R_lower ho8 (below_size (zh1 HB.out GE183.out))); replace BK183 := Aside0.mk (zB BK183.out hb); replace HB := Aside0.mk (below_step (zh1 HB.out GE183.out) hb); clear hb ho8; obtain ⟨hcz9_0, hcz9_1, hcz9_2, hcz9_3, hcz9_4, hcz9_5, hcz9_6, hcz9_7, hcz9_8⟩ := cells9 BK183.out; obtain ⟨hfz9_0, hfz9_1, hfz9_2, hfz9_3, hfz9_4, hfz9_5, hfz9_6, hfz9_7, hfz9_8⟩ := frozen9 BK183.out; obtain ⟨Ao10, co10, eo10⟩ := Kd.R_slice HO186.out; subst eo10))
       replace HO186 := Aside0.mk (Kd.R_drew HO186.out)
       replace BK183 := Aside0.mk (blk_drew BK183.out)
       replace HB := Aside0.mk (below_drew1 HB.out)
       refine start_ (n := 11) (S := fun w' => w'.cell? ⟨gb183, 0, none⟩ = some (.int .i64 a0_0) ∧ w'.cell? ⟨gb183, 1, none⟩ = some (.int .i64 a0_1) ∧ w'.cell? ⟨gb183, 2, none⟩ = some (.int .i64 a0_2) ∧ w'.cell? ⟨gb183, 3, none⟩ = some (.int .i64 a0_3) ∧ w'.cell? ⟨gb183, 4, none⟩ = some (.slice A0_4 l0_4.length c0_4) ∧ w'.cell? ⟨gb183, 5, none⟩ = some (.int .i64 a0_5) ∧ w'.cell? ⟨gb183, 6, none⟩ = some (.int .i64 a0_6) ∧ w'.cell? ⟨gb183, 7, none⟩ = some (.slice A0_7 l0_7.length c0_7) ∧ w'.cell? ⟨gb183, 8, none⟩ = some (.int .i64 a0_8)) (ds := []) (mk_ 0 11) (by kernel_rfl) rfl rfl ⟨(blk_cell BK183.out 0).trans rfl, (blk_cell BK183.out 1).trans rfl, (blk_cell BK183.out 2).trans rfl, (blk_cell BK183.out 3).trans rfl, (blk_cell BK183.out 4).trans rfl, (blk_cell BK183.out 5).trans rfl, (blk_cell BK183.out 6).trans rfl, (blk_cell BK183.out 7).trans rfl, (blk_cell BK183.out 8).trans rfl⟩ (fun hHeld => ?_); refine with_tabW cards_values.tab3 cards_values.bits3 (fun HT_ HW_ => ?_)
       generalize w7.drew = w11 at HO186 BK183 HB hHeld ⊢
       refine zp (i := 0) (N := some 18) (mk_ 1 11) HT_.out ?_
       refine zp (i := 1) (N := some 19) (mk_ 2 11) HT_.out ?_
       refine zp (i := 4) (N := some 22) #[true, true, false, false, true, false, false, false, false, false, false] HT_.out ?_
       refine zp (i := 6) (N := some 24) #[true, true, false, false, true, false, true, false, false, false, false] HT_.out ?_
       refine take_ (i := 2) (N := some 20) (v := ?_) (a' := ?_) #[true, true, true, false, true, false, true, false, false, false, false] rfl rfl (take_ofW HT_.out HW_.out (by kernel_rfl)) (fun _ _ _ h => h) (Or.inl ⟨by rfl, ?_⟩) hHeld ?_ ?_
       rotate_left
       · rintro w' ⟨s0, s1, s2, s3, s4, s5, s6, s7, s8⟩
         go_simp
         with_reducible rfl
       rotate_left
       · simp only [Act.put, zi, zi0, zi1, i64_w, i32_w]
         rfl
       refine take_ (i := 5) (N := some 23) (v := ?_) (a' := ?_) #[true, true, true, false, true, true, true, false, false, false, false] rfl rfl (take_ofW HT_.out HW_.out (by kernel_rfl)) (fun _ _ _ h => h) (Or.inl ⟨by rfl, ?_⟩) hHeld ?_ ?_
       rotate_left
       · rintro w' ⟨s0, s1, s2, s3, s4, s5, s6, s7, s8⟩
         go_simp
         with_reducible rfl
       rotate_left
       · simp only [Act.put, zi, zi0, zi1, i64_w, i32_w]
         rfl
       refine take_ (i := 7) (N := some 25) (v := ?_) (a' := ?_) #[true, true, true, false, true, true, true, true, false, false, false] rfl rfl (take_ofW HT_.out HW_.out (by kernel_rfl)) (fun _ _ _ h => h) (Or.inl ⟨by rfl, ?_⟩) hHeld ?_ ?_
       rotate_left
       · rintro w' ⟨s0, s1, s2, s3, s4, s5, s6, s7, s8⟩
         go_simp
         with_reducible rfl
       rotate_left
       · simp only [Act.put, zi, zi0, zi1, i64_w, i32_w]
         rfl
       refine join_ (σ := Value × Value) 2 (mk_ 9 11) (fun s_ => [(21, s_.1), (26, s_.2)]) (fun s_ w' => (w'.cell? ⟨gb183, 0, none⟩ = some (.int .i64 a0_0) ∧ w'.cell? ⟨gb183, 1, none⟩ = some (.int .i64 a0_1) ∧ w'.cell? ⟨gb183, 2, none⟩ = some (.int .i64 a0_2) ∧ w'.cell? ⟨gb183, 3, none⟩ = some (.int .i64 a0_3) ∧ w'.cell? ⟨gb183, 4, none⟩ = some (.slice A0_4 l0_4.length c0_4) ∧ w'.cell? ⟨gb183, 5, none⟩ = some (.int .i64 a0_5) ∧ w'.cell? ⟨gb183, 6, none⟩ = some (.int .i64 a0_6) ∧ w'.cell? ⟨gb183, 7, none⟩ = some (.slice A0_7 l0_7.length c0_7) ∧ w'.cell? ⟨gb183, 8, none⟩ = some (.int .i64 a0_8)) ∧ (Kd.R (Kd.int .i64) 3 w' w.heap.size (fun k_ => some k_ ≠ (s_.2 : Value).ownBlock) s_.1 y187) ∧ (Kd.R (Kd.int .i64) 3 w' w.heap.size (fun k_ => some k_ ≠ (s_.1 : Value).ownBlock) s_.2 y190) ∧ (w'.heap[gb183]? = some (.cells #[.int .i64 a0_0, .int .i64 a0_1, .int .i64 a0_2, .int .i64 a0_3, .slice A0_4 l0_4.length c0_4, .int .i64 a0_5, .int .i64 a0_6, .slice A0_7 l0_7.length c0_7, .int .i64 a0_8] 25 (0, 0))) ∧ (Below w.heap.size w w')) ?_ ?_
       rotate_left
       · intro hCont
         refine two_ (i := 3) (j := 8) (Ni := some 21) (Nj := some 26) (mk_ 8 11) #[true, true, true, false, true, true, true, true, true, false, false] rfl rfl rfl rfl (two_of HT_.out (by kernel_rfl)) (by decide) (by decide) (fun K hK => ?_) (fun K hK => ?_)
         · skip
           refine Kd.R_append_rows_step (Kd.int .i64) (w0 := w) w.heap.size (by rfl) (.tmp 18) (.tmp 20) 22 3 (.int .i64 0) 8 rfl Try.underlying22 info3 rfl (by decide) (by omega) (.slice Ao10 y184.length co10) y184 l0_4 _ _ _ (fun _ => True) (fun _ => False) rfl rfl ?aO ?aR (fun _ _ h => h) (fun _ h => h.elim) ?aF ?aB ?aS ?aL ?_
           (case aR => repeat (first | exact (Kd.C_below HR0_4.out HB.out) | (with_reducible refine Kd.C_alloc ?_ _) | (with_reducible refine Kd.C_drewN ?_ _) | (with_reducible refine Kd.C_drew ?_)))
           (case aB => exact (zh1 HB.out GE183.out))
           (case aF => exact (fun _ _ => trivial))
           (case aO => exact (zr HO186.out))
           (case aS => exact (below_size (zh1 HB.out GE183.out)))
           (case aL => have := LMc3.out; omega)
           intro v188 w12 ho hb hg hat
           rw [← Ny187.out] at ho
           replace BK183 := Aside0.mk (blk_grown (g := gb183) (o := .cells #[.int .i64 a0_0, .int .i64 a0_1, .int .i64 a0_2, .int .i64 a0_3, .slice A0_4 l0_4.length c0_4, .int .i64 a0_5, .int .i64 a0_6, .slice A0_7 l0_7.length c0_7, .int .i64 a0_8] 25 (0, 0)) (zb BK183.out) hg (Kd.R_ne HO186.out BK183.out (by decide)))
           replace HB := Aside0.mk (hb)
           have HO189 := Aside0.mk (ho)
           (try clear HO186)
           clear ho hb hg hat
           refine hK.out _ _ ⟨(blk_cell BK183.out 0).trans rfl, (blk_cell BK183.out 1).trans rfl, (blk_cell BK183.out 2).trans rfl, (blk_cell BK183.out 3).trans rfl, (blk_cell BK183.out 4).trans rfl, (blk_cell BK183.out 5).trans rfl, (blk_cell BK183.out 6).trans rfl, (blk_cell BK183.out 7).trans rfl, (blk_cell BK183.out 8).trans rfl⟩ (fun hHeld => ?_)
           clear hK K
           refine zn (some 21) ?_
           refine one_ (i := 8) (N := some 26) (mk_ 9 11) rfl rfl (one_of HT_.out (by kernel_rfl)) (by decide) (fun K hK => ?_)
           refine Kd.R_lit_step (Kd.int .i64) _ 3 ?hg (N := 26) ?hd (xs := ([a0_5, a0_6] : List Int)) (inner := [.int .i64 a0_5, .int .i64 a0_6]) (ok := fun _ => True) (okp := fun _ => True) ?hr ?hp (fun _ hk => hk) trivial (Below.refl _ _) (Nat.le_refl _) (by simp) ?_; (case hd => rfl); (case hg => rfl); (case hr => first | (go_simp; done) | (go_simp; rfl)); (case hp => exact (Reps.one (show Kd.M (Kd.int .i64) _ _ _ a0_5 [.int .i64 a0_5] from rfl) (Reps.one (show Kd.M (Kd.int .i64) _ _ _ a0_6 [.int .i64 a0_6] from rfl) (Reps.none _ _))))
           intro v191 w13 ho14 hb hg_ hnew_
           clear hg_ hnew_
           (first | rw [← Ny190.out] at ho14 | (simp only [Int.reduceToNat] at ho14; rw [← Ny190.out] at ho14))
           have HO192 := Aside0.mk (Kd.R_lower (Kd.R_new' ho14 (Kd.R_lt (zr HO189.out))) (below_size (zh1 HB.out GE183.out)))
           replace HO189 := Aside0.mk (Kd.R_elder' (zr HO189.out) (Kd.R_base ho14) hb)
           replace BK183 := Aside0.mk (zB BK183.out hb)
           replace HB := Aside0.mk (below_step (zh1 HB.out GE183.out) hb)
           clear hb ho14
           refine hK.out _ _ ⟨(blk_cell BK183.out 0).trans rfl, (blk_cell BK183.out 1).trans rfl, (blk_cell BK183.out 2).trans rfl, (blk_cell BK183.out 3).trans rfl, (blk_cell BK183.out 4).trans rfl, (blk_cell BK183.out 5).trans rfl, (blk_cell BK183.out 6).trans rfl, (blk_cell BK183.out 7).trans rfl, (blk_cell BK183.out 8).trans rfl⟩ (fun hHeld => ?_)
           clear hK K
           refine zn (some 26) ?_
           exact norm_ (by simp only [putAll, Act.put, List.setIfInBounds_toArray, List.set_cons_zero, List.set_cons_succ]) (hCont (v188, v191) _ ⟨hHeld, (by (with_reducible repeat (first | apply Kd.R_alloc | apply Kd.R_drewN | apply Kd.R_drew)); exact Kd.R_mono HO189.out (fun _ hk => hk.2)), (by (with_reducible repeat (first | apply Kd.R_alloc | apply Kd.R_drewN | apply Kd.R_drew)); exact Kd.R_mono HO192.out (fun _ hk => hk.2)), (zb BK183.out), (zh1 HB.out GE183.out)⟩)
         · skip
           refine Kd.R_lit_step (Kd.int .i64) _ 3 ?hg (N := 26) ?hd (xs := ([a0_5, a0_6] : List Int)) (inner := [.int .i64 a0_5, .int .i64 a0_6]) (ok := fun _ => True) (okp := fun _ => True) ?hr ?hp (fun _ hk => hk) trivial (Below.refl _ _) (Nat.le_refl _) (by simp) ?_; (case hd => rfl); (case hg => rfl); (case hr => first | (go_simp; done) | (go_simp; rfl)); (case hp => exact (Reps.one (show Kd.M (Kd.int .i64) _ _ _ a0_5 [.int .i64 a0_5] from rfl) (Reps.one (show Kd.M (Kd.int .i64) _ _ _ a0_6 [.int .i64 a0_6] from rfl) (Reps.none _ _))))
           intro v191 w12 ho13 hb hg_ hnew_
           clear hg_ hnew_
           (first | rw [← Ny190.out] at ho13 | (simp only [Int.reduceToNat] at ho13; rw [← Ny190.out] at ho13))
           have HO192 := Aside0.mk (Kd.R_lower (Kd.R_new' ho13 (Kd.R_lt (zr HO186.out))) (below_size (zh1 HB.out GE183.out)))
           replace HO186 := Aside0.mk (Kd.R_elder' (zr HO186.out) (Kd.R_base ho13) hb)
           replace BK183 := Aside0.mk (zB BK183.out hb)
           replace HB := Aside0.mk (below_step (zh1 HB.out GE183.out) hb)
           clear hb ho13
           refine hK.out _ _ ⟨(blk_cell BK183.out 0).trans rfl, (blk_cell BK183.out 1).trans rfl, (blk_cell BK183.out 2).trans rfl, (blk_cell BK183.out 3).trans rfl, (blk_cell BK183.out 4).trans rfl, (blk_cell BK183.out 5).trans rfl, (blk_cell BK183.out 6).trans rfl, (blk_cell BK183.out 7).trans rfl, (blk_cell BK183.out 8).trans rfl⟩ (fun hHeld => ?_)
           clear hK K
           refine zn (some 26) ?_
           refine one_ (i := 3) (N := some 21) (mk_ 9 11) rfl rfl (one_of HT_.out (by kernel_rfl)) (by decide) (fun K hK => ?_)
           refine Kd.R_append_rows_step (Kd.int .i64) (w0 := w) w.heap.size (by rfl) (.tmp 18) (.tmp 20) 22 3 (.int .i64 0) 8 rfl Try.underlying22 info3 rfl (by decide) (by omega) (.slice Ao10 y184.length co10) y184 l0_4 _ _ _ (fun k_ => some k_ ≠ (v191 : Value).ownBlock) (fun _ => False) rfl rfl ?aO ?aR (fun _ _ h => h) (fun _ h => h.elim) ?aF ?aB ?aS ?aL ?_
           (case aR => repeat (first | exact (Kd.C_below HR0_4.out HB.out) | (with_reducible refine Kd.C_alloc ?_ _) | (with_reducible refine Kd.C_drewN ?_ _) | (with_reducible refine Kd.C_drew ?_)))
           (case aB => exact (zh1 HB.out GE183.out))
           (case aF => exact (fun k_ hk => Kd.fresh' (Kd.R_lt (zr HO192.out)) k_ hk))
           (case aO => exact (by (with_reducible repeat (first | apply Kd.R_alloc | apply Kd.R_drewN | apply Kd.R_drew)); exact Kd.R_mono HO186.out (fun _ hk => hk.2)))
           (case aS => exact (below_size (zh1 HB.out GE183.out)))
           (case aL => have := LMc3.out; omega)
           intro v188 w14 ho hb hg hat
           rw [← Ny187.out] at ho
           replace BK183 := Aside0.mk (blk_grown (g := gb183) (o := .cells #[.int .i64 a0_0, .int .i64 a0_1, .int .i64 a0_2, .int .i64 a0_3, .slice A0_4 l0_4.length c0_4, .int .i64 a0_5, .int .i64 a0_6, .slice A0_7 l0_7.length c0_7, .int .i64 a0_8] 25 (0, 0)) (zb BK183.out) hg (Kd.R_ne HO186.out BK183.out (by decide)))
           replace HO192 := Aside0.mk (Kd.R_after (ok := (fun _ => True)) (zr HO192.out) hg hat)
           replace HB := Aside0.mk (hb)
           have HO189 := Aside0.mk (ho)
           (try clear HO186)
           clear ho hb hg hat
           refine hK.out _ _ ⟨(blk_cell BK183.out 0).trans rfl, (blk_cell BK183.out 1).trans rfl, (blk_cell BK183.out 2).trans rfl, (blk_cell BK183.out 3).trans rfl, (blk_cell BK183.out 4).trans rfl, (blk_cell BK183.out 5).trans rfl, (blk_cell BK183.out 6).trans rfl, (blk_cell BK183.out 7).trans rfl, (blk_cell BK183.out 8).trans rfl⟩ (fun hHeld => ?_)
           clear hK K
           refine zn (some 21) ?_
           exact norm_ (by simp only [putAll, Act.put, List.setIfInBounds_toArray, List.set_cons_zero, List.set_cons_succ]) (hCont (v188, v191) _ ⟨hHeld, (zr HO189.out), (by (with_reducible repeat (first | apply Kd.R_alloc | apply Kd.R_drewN | apply Kd.R_drew)); exact Kd.R_mono HO192.out (fun _ hk => hk.2)), (zb BK183.out), (zh1 HB.out GE183.out)⟩)
       rintro ⟨v188, v191⟩ w15 ⟨hS_, h0_, h1_, h2_, h3_⟩
       have n0_ : Aside0 (Kd.R (Kd.int .i64) 3 w15 w.heap.size (fun k_ => some k_ ≠ (v191 : Value).ownBlock) v188 y187) := ⟨h0_⟩
       have n1_ : Aside0 (Kd.R (Kd.int .i64) 3 w15 w.heap.size (fun k_ => some k_ ≠ (v188 : Value).ownBlock) v191 y190) := ⟨h1_⟩
       have n2_ : Aside0 (w15.heap[gb183]? = some (.cells #[.int .i64 a0_0, .int .i64 a0_1, .int .i64 a0_2, .int .i64 a0_3, .slice A0_4 l0_4.length c0_4, .int .i64 a0_5, .int .i64 a0_6, .slice A0_7 l0_7.length c0_7, .int .i64 a0_8] 25 (0, 0))) := ⟨h2_⟩
       have n3_ : Aside0 (Below w.heap.size w w15) := ⟨h3_⟩
       clear HO186; clear BK183; clear HB
       clear h0_ h1_ h2_ h3_
       have HO189 := n0_
       have HO192 := n1_
       have BK183 := n2_
       have HB := n3_
       clear n0_ n1_ n2_ n3_
       have hHeld : w15.cell? ⟨gb183, 0, none⟩ = some (.int .i64 a0_0) ∧ w15.cell? ⟨gb183, 1, none⟩ = some (.int .i64 a0_1) ∧ w15.cell? ⟨gb183, 2, none⟩ = some (.int .i64 a0_2) ∧ w15.cell? ⟨gb183, 3, none⟩ = some (.int .i64 a0_3) ∧ w15.cell? ⟨gb183, 4, none⟩ = some (.slice A0_4 l0_4.length c0_4) ∧ w15.cell? ⟨gb183, 5, none⟩ = some (.int .i64 a0_5) ∧ w15.cell? ⟨gb183, 6, none⟩ = some (.int .i64 a0_6) ∧ w15.cell? ⟨gb183, 7, none⟩ = some (.slice A0_7 l0_7.length c0_7) ∧ w15.cell? ⟨gb183, 8, none⟩ = some (.int .i64 a0_8) := hS_
       obtain ⟨Ao17, co17, eo17⟩ := Kd.R_slice HO192.out
       (first | subst eo17 | (injection eo17 with f1_ f2_ f3_; have f4_ := f1_.symm; have f5_ := f3_.symm; clear f1_ f2_ f3_; subst f4_; subst f5_))
       refine norm_ (a' := ?_) ?_ ?_
       rotate_left
       · simp only [putAll, Act.put, List.setIfInBounds_toArray, List.set_cons_zero, List.set_cons_succ]
         rfl
       refine one_ (i := 9) (N := some 27) (mk_ 10 11) rfl rfl (one_of HT_.out (by kernel_rfl)) (by decide) (fun K hK => ?_)
       refine Kd.R_append_rows_step (Kd.int .i64) (w0 := w) w.heap.size (by rfl) (.tmp 21) (.tmp 26) 22 3 (.int .i64 0) 8 rfl Try.underlying22 info3 rfl (by decide) (by omega) v188 y187 y190 _ _ _ (fun k_ => some k_ ≠ (.slice Ao17 y190.length co17 : Value).ownBlock) (fun _ => False) rfl rfl ?aO ?aR (fun _ _ h => h) (fun _ h => h.elim) ?aF ?aB ?aS ?aL ?_
       (case aR => repeat (first | exact (Kd.R_reads' HO192.out).2.2 | (with_reducible refine Kd.C_alloc ?_ _) | (with_reducible refine Kd.C_drewN ?_ _) | (with_reducible refine Kd.C_drew ?_)))
       (case aB => exact (zh1 HB.out GE183.out))
       (case aF => exact (fun k_ hk => Kd.fresh' (Kd.R_lt (zr HO192.out)) k_ hk))
       (case aO => exact (zr HO189.out))
       (case aS => exact (below_size (zh1 HB.out GE183.out)))
       (case aL => have := LMc4.out; omega)
       intro v194 w16 ho hb hg hat
       rw [← Ny193.out] at ho
       replace BK183 := Aside0.mk (blk_grown (g := gb183) (o := .cells #[.int .i64 a0_0, .int .i64 a0_1, .int .i64 a0_2, .int .i64 a0_3, .slice A0_4 l0_4.length c0_4, .int .i64 a0_5, .int .i64 a0_6, .slice A0_7 l0_7.length c0_7, .int .i64 a0_8] 25 (0, 0)) (zb BK183.out) hg (Kd.R_ne HO189.out BK183.out (by decide)))
       replace HO192 := Aside0.mk (Kd.R_after (ok := (fun _ => True)) (by (with_reducible repeat (first | apply Kd.R_alloc | apply Kd.R_drewN | apply Kd.R_drew)); exact Kd.R_mono HO192.out (fun _ hk => ⟨trivial, hk⟩)) hg hat)
       replace HB := Aside0.mk (hb)
       have HO195 := Aside0.mk (ho)
       (try clear HO189)
       clear ho hb hg hat
       refine hK.out _ _ ⟨(blk_cell BK183.out 0).trans rfl, (blk_cell BK183.out 1).trans rfl, (blk_cell BK183.out 2).trans rfl, (blk_cell BK183.out 3).trans rfl, (blk_cell BK183.out 4).trans rfl, (blk_cell BK183.out 5).trans rfl, (blk_cell BK183.out 6).trans rfl, (blk_cell BK183.out 7).trans rfl, (blk_cell BK183.out 8).trans rfl⟩ (fun hHeld => ?_)
       clear hK K
       refine zn (some 27) ?_
       refine zp (i := 10) (N := some 2) (mk_ 11 11) HT_.out ?_
       refine done_ (done_of HT_.out (by kernel_rfl)) ?_
       try go_wp2
       go_ret
       exact ⟨_, ze, by (with_reducible repeat (first | apply Kd.R_alloc | apply Kd.R_drewN | apply Kd.R_drew)); exact Kd.R_mono HO195.out (fun _ hk => trivial), zh1 HB.out GE183.out⟩
     · rw [if_neg c4] at H
       exact absurd H (by simp)
   · rw [if_neg c3] at H
     exact absurd H (by simp)
 · rw [if_neg c2] at H
   have c2b0 : (a0_0 == 1) = false := beq_eq_false_iff_ne.mpr c2
   have c2b1 : (a0_0 != 1) = true := bne_iff_ne.mpr c2
   by_cases c18 : y184.length < 17592186044416
   · rw [if_pos c18] at H
     have LMc18 := Aside0.mk c18
     clear c18
     obtain ⟨y196, hy196⟩ : ∃ y_ : List Int, y_ = (y184 ++ [(l0_7.length : Int)]) := ⟨_, rfl⟩
     replace H : (cards_values.l0 k y196 0 a0_0 a0_1 a0_2 a0_3 l0_4 a0_5 a0_6 l0_7 a0_8) = some r := by first | (rw [hy196]; with_reducible exact H) | (have H2_ := (Option.bind_some _ _).symm.trans H; rw [hy196]; with_reducible exact H2_) | (have H2_ := (Option.bind_some _ _).symm.trans H; with_reducible exact H2_) | with_reducible exact H | (rw [hy196]; exact H) | exact H
     have Ny196 := Aside0.mk hy196
     clear hy196
     have H' := Aside0.mk H
     clear H
     go_enter Try.func26, Try.ntmps26
     go_wp2_with (first | ((with_reducible refine gate_dst (N := 1) rfl ?_); refine zbx (N := 1) (cs := #[.int .i64 a0_0, .int .i64 a0_1, .int .i64 a0_2, .int .i64 a0_3, .slice A0_4 l0_4.length c0_4, .int .i64 a0_5, .int .i64 a0_6, .slice A0_7 l0_7.length c0_7, .int .i64 a0_8]) (t := 25) ?_; intro gb183 hg w19 hbox hb; have BK183 := Aside0.mk (hbox); have GW183 := Aside0.mk ((by rw [hg]; exact (below_size (zh0 HB.out)) : w.heap.size ≤ gb183)); have GE183 := GW183; replace HB := Aside0.mk (below_step (zh0 HB.out) hb); clear hb hbox hg; obtain ⟨hcz20_0, hcz20_1, hcz20_2, hcz20_3, hcz20_4, hcz20_5, hcz20_6, hcz20_7, hcz20_8⟩ := cells9 BK183.out; obtain ⟨hfz20_0, hfz20_1, hfz20_2, hfz20_3, hfz20_4, hfz20_5, hfz20_6, hfz20_7, hfz20_8⟩ := frozen9 BK183.out) | ((with_reducible refine gate_dst (N := 14) rfl ?_); refine Kd.R_lit (Kd.int .i64) _ 3 ?hg (N := 14) ?hd (xs := ([a0_0, a0_1, a0_2, a0_3] : List Int)) (inner := [.int .i64 a0_0, .int .i64 a0_1, .int .i64 a0_2, .int .i64 a0_3]) (ok := fun _ => True) (okp := fun _ => True) ?hr ?hp (fun _ hk => hk) trivial (Below.refl _ _) (Nat.le_refl _) (by simp) ?_; (case hd => rfl); (case hg => rfl); (case hr => first | (go_simp; done) | (go_simp; rfl)); (case hp => exact (Reps.one (show Kd.M (Kd.int .i64) _ _ _ a0_0 [.int .i64 a0_0] from rfl) (Reps.one (show Kd.M (Kd.int .i64) _ _ _ a0_1 [.int .i64 a0_1] from rfl) (Reps.one (show Kd.M (Kd.int .i64) _ _ _ a0_2 [.int .i64 a0_2] from rfl) (Reps.one (show Kd.M (Kd.int .i64) _ _ _ a0_3 [.int .i64 a0_3] from rfl) (Reps.none _ _)))))); intro v185 w21 ho22 hb hg_ hnew_; clear hg_ hnew_; (first | rw [← Ny184.out] at ho22 | (simp only [Int.reduceToNat] at ho22; rw [← Ny184.out] at ho22)); have HO186 := Aside0.mk (Kd.R_lower ho22 (below_size (zh1 HB.out GE183.out))); replace BK183 := Aside0.mk (zB BK183.out hb); replace HB := Aside0.mk (below_step (zh1 HB.out GE183.out) hb); clear hb ho22; obtain ⟨hcz23_0, hcz23_1, hcz23_2, hcz23_3, hcz23_4, hcz23_5, hcz23_6, hcz23_7, hcz23_8⟩ := cells9 BK183.out; obtain ⟨hfz23_0, hfz23_1, hfz23_2, hfz23_3, hfz23_4, hfz23_5, hfz23_6, hfz23_7, hfz23_8⟩ := frozen9 BK183.out) | ((with_reducible refine gate_builtin (b := .append) (xs := #[.tmp 28, .tmp 32]) rfl ?_); at_builtin; refine Kd.R_append (Kd.int .i64) (w0 := w) w.heap.size rfl (.tmp 28) (.tmp 32) 22 3 (.int .i64 0) 8 rfl Try.underlying22 info3 rfl (by decide) (by omega) v185 y184 (l0_7.length : Int) [.int .i64 (l0_7.length : Int)] (fun _ => True) (fun _ => False) rfl rfl ?aP (fun _ hk => hk.elim) ?aF ?aO ?aB ?aS ?aL ?_; (case aP => exact rfl); (case aB => exact (zh1 HB.out GE183.out)); (case aF => exact (fun _ _ => trivial)); (case aO => exact (zr HO186.out)); (case aS => exact (below_size (zh1 HB.out GE183.out))); (case aL => have := LMc18.out; omega); intro v197 w24 ho hb hg hat; rw [← Ny196.out] at ho; replace BK183 := Aside0.mk (blk_grown (g := gb183) (o := .cells #[.int .i64 a0_0, .int .i64 a0_1, .int .i64 a0_2, .int .i64 a0_3, .slice A0_4 l0_4.length c0_4, .int .i64 a0_5, .int .i64 a0_6, .slice A0_7 l0_7.length c0_7, .int .i64 a0_8] 25 (0, 0)) (zb BK183.out) hg (Kd.R_ne HO186.out BK183.out (by decide))); replace HB := Aside0.mk (hb); have HO198 := Aside0.mk (ho); (try clear HO186); clear ho hb hg hat))
     go_loopg [3, 34] k (fun kq v3 v34 w' => ∃ (x3_1 : List Int) (x34_1 : Int), v34 = .int .i64 x34_1 ∧ Aside0 (cards_values.l0 kq x3_1 x34_1 a0_0 a0_1 a0_2 a0_3 l0_4 a0_5 a0_6 l0_7 a0_8 = some r) ∧ Aside0 (kq ≤ k) ∧ Aside0 (Kd.R (Kd.int .i64) 3 w' w.heap.size (fun _ => True) v3 x3_1) ∧ Aside0 (w'.heap[gb183]? = some (.cells #[.int .i64 a0_0, .int .i64 a0_1, .int .i64 a0_2, .int .i64 a0_3, (.slice A0_4 l0_4.length c0_4), .int .i64 a0_5, .int .i64 a0_6, (.slice A0_7 l0_7.length c0_7), .int .i64 a0_8] 25 (0, 0))) ∧ Aside0 (Below w.heap.size w w'))
     case atStart => exact ⟨(y196), (0), (zs), H', ⟨Nat.le_refl _⟩, ⟨zr HO198.out⟩, ⟨zb BK183.out⟩, ⟨zh1 HB.out GE183.out⟩⟩
     case round =>
      clear H'
      (try clear c1); (try clear c2)
      (try clear c2b0); (try clear c2b1)
      (try clear p2); (try clear c3)
      (try clear c4); (try clear c18)
      (try clear hcz20_0); (try clear hcz20_1)
      (try clear hcz20_2); (try clear hcz20_3)
      (try clear hcz20_4); (try clear hcz20_5)
      (try clear hcz20_6); (try clear hcz20_7)
      (try clear hcz20_8); (try clear hcz23_0)
      (try clear hcz23_1); (try clear hcz23_2)
      (try clear hcz23_3); (try clear hcz23_4)
      (try clear hcz23_5); (try clear hcz23_6)
      (try clear hcz23_7); (try clear hcz23_8)
      (try clear hcz6_0); (try clear hcz6_1)
      (try clear hcz6_2); (try clear hcz6_3)
      (try clear hcz6_4); (try clear hcz6_5)
      (try clear hcz6_6); (try clear hcz6_7)
      (try clear hcz6_8); (try clear hcz9_0)
      (try clear hcz9_1); (try clear hcz9_2)
      (try clear hcz9_3); (try clear hcz9_4)
      (try clear hcz9_5); (try clear hcz9_6)
      (try clear hcz9_7); (try clear hcz9_8)
      (try clear hfz20_0); (try clear hfz20_1)
      (try clear hfz20_2); (try clear hfz20_3)
      (try clear hfz20_4); (try clear hfz20_5)
      (try clear hfz20_6); (try clear hfz20_7)
      (try clear hfz20_8); (try clear hfz23_0)
      (try clear hfz23_1); (try clear hfz23_2)
      (try clear hfz23_3); (try clear hfz23_4)
      (try clear hfz23_5); (try clear hfz23_6)
      (try clear hfz23_7); (try clear hfz23_8)
      (try clear hfz6_0); (try clear hfz6_1)
      (try clear hfz6_2); (try clear hfz6_3)
      (try clear hfz6_4); (try clear hfz6_5)
      (try clear hfz6_6); (try clear hfz6_7)
      (try clear hfz6_8); (try clear hfz9_0)
      (try clear hfz9_1); (try clear hfz9_2)
      (try clear hfz9_3); (try clear hfz9_4)
      (try clear hfz9_5); (try clear hfz9_6)
      (try clear hfz9_7); (try clear hfz9_8)
      obtain ⟨x3_1, x34_1, rfl, HA, HK1, HO_3, BK183, HB⟩ := hrel
      cases gk with
      | zero => exact absurd HA.out (by simp [cards_values.l0])
      | succ k1 =>
        have H := HA.out
        clear HA
        simp only [cards_values.l0] at H
        by_cases c25 : x34_1 < 3
        · rw [if_pos c25] at H
          have c25b0 : decide (x34_1 < 3) = true := decide_eq_true c25
          clear c25
          by_cases c26 : x34_1 < (l0_7.length : Int)
          · rw [if_pos c26] at H
            have c26b0 : decide (x34_1 < (l0_7.length : Int)) = true := decide_eq_true c26
            clear c26
            by_cases c27 : 0 ≤ x34_1
            · rw [if_pos c27] at H
              have c27b0 : decide (0 ≤ x34_1) = true := decide_eq_true c27
              clear c27
              obtain ⟨y201, hy201⟩ : ∃ y_ : List Int, y_ = (([(rd_T48 l0_7 x34_1).f0, (rd_T48 l0_7 x34_1).f1, (rd_T48 l0_7 x34_1).f2] : List Int)) := ⟨_, rfl⟩
              replace H : (if x3_1.length + y201.length < 17592186044416 then (cards_values.l0 k1 (x3_1 ++ y201) (wrap64 (x34_1 + 1)) a0_0 a0_1 a0_2 a0_3 l0_4 a0_5 a0_6 l0_7 a0_8) else (none)) = some r := by first | (rw [hy201]; with_reducible exact H) | (have H2_ := (Option.bind_some _ _).symm.trans H; rw [hy201]; with_reducible exact H2_) | (have H2_ := (Option.bind_some _ _).symm.trans H; with_reducible exact H2_) | with_reducible exact H | (rw [hy201]; exact H) | exact H
              have Ny201 := Aside0.mk hy201
              clear hy201
              by_cases c28 : x3_1.length + y201.length < 17592186044416
              · rw [if_pos c28] at H
                have LMc28 := Aside0.mk c28
                clear c28
                obtain ⟨y204, hy204⟩ : ∃ y_ : List Int, y_ = (x3_1 ++ y201) := ⟨_, rfl⟩
                replace H : (cards_values.l0 k1 y204 (wrap64 (x34_1 + 1)) a0_0 a0_1 a0_2 a0_3 l0_4 a0_5 a0_6 l0_7 a0_8) = some r := by first | (rw [hy204]; with_reducible exact H) | (have H2_ := (Option.bind_some _ _).symm.trans H; rw [hy204]; with_reducible exact H2_) | (have H2_ := (Option.bind_some _ _).symm.trans H; with_reducible exact H2_) | with_reducible exact H | (rw [hy204]; exact H) | exact H
                have Ny204 := Aside0.mk hy204
                clear hy204
                have H' := Aside0.mk H
                clear H
                go_upto_region 11 with (first | ((with_reducible refine gate_dst (N := 5) rfl ?_); refine zbx (N := 5) (cs := #[.int .i64 0, .int .i64 0, .int .i64 0]) (t := 48) ?_; intro gb199 hg w29 hbox hb; replace HO_3 := Aside0.mk (zR HO_3.out hb); have BK199 := Aside0.mk (hbox); have GW199 := Aside0.mk ((by rw [hg]; exact (below_size (zh1 HB.out GE183.out)) : w.heap.size ≤ gb199)); have GE199 := GW199; replace HB := Aside0.mk (below_step (zh1 HB.out GE183.out) hb); have NB183_199 := Aside0.mk ((by rw [hg]; exact Nat.ne_of_lt (blk_lt (g := gb183) (o := .cells #[.int .i64 a0_0, .int .i64 a0_1, .int .i64 a0_2, .int .i64 a0_3, .slice A0_4 l0_4.length c0_4, .int .i64 a0_5, .int .i64 a0_6, .slice A0_7 l0_7.length c0_7, .int .i64 a0_8] 25 (0, 0)) (zb BK183.out)) : gb183 ≠ gb199)); have NB199_183 := Aside0.mk ((by rw [hg]; exact Nat.ne_of_gt (blk_lt (g := gb183) (o := .cells #[.int .i64 a0_0, .int .i64 a0_1, .int .i64 a0_2, .int .i64 a0_3, .slice A0_4 l0_4.length c0_4, .int .i64 a0_5, .int .i64 a0_6, .slice A0_7 l0_7.length c0_7, .int .i64 a0_8] 25 (0, 0)) (zb BK183.out)) : gb199 ≠ gb183)); replace BK183 := Aside0.mk (zB BK183.out hb); clear hb hbox hg; have hnb30 := NB199_183.out; have hnc30 := NB183_199.out; obtain ⟨hcz31_0, hcz31_1, hcz31_2⟩ := cells3 BK199.out; have hfz31_0 := blk_frozen BK199.out 0; have hfz31_1 := blk_frozen BK199.out 1; have hfz31_2 := blk_frozen BK199.out 2; obtain ⟨hcz32_0, hcz32_1, hcz32_2, hcz32_3, hcz32_4, hcz32_5, hcz32_6, hcz32_7, hcz32_8⟩ := cells9 BK183.out; obtain ⟨hfz32_0, hfz32_1, hfz32_2, hfz32_3, hfz32_4, hfz32_5, hfz32_6, hfz32_7, hfz32_8⟩ := frozen9 BK183.out; have p200 : 0 ≤ (x34_1 : Int) := zd; have q200 : x34_1 < (l0_7.length : Int) := zd; obtain ⟨ad200, e200, hx200_0, hx200_1, hx200_2⟩ := at_T48 HR0_7.out x34_1 p200 q200; cases e200; have hn200_0 : ad200.block ≠ gb199 := Nat.ne_of_lt (Nat.lt_of_lt_of_le (by have := World.block_lt_of_cell? _ _ hx200_0; first | rwa [add_block] at this | exact this) GW199.out); have hn200_1 : ad200.block ≠ gb199 := Nat.ne_of_lt (Nat.lt_of_lt_of_le (by have := World.block_lt_of_cell? _ _ hx200_0; first | rwa [add_block] at this | exact this) GW199.out); have hn200_2 : ad200.block ≠ gb199 := Nat.ne_of_lt (Nat.lt_of_lt_of_le (by have := World.block_lt_of_cell? _ _ hx200_0; first | rwa [add_block] at this | exact this) GW199.out); replace hx200_0 := pw_cell_below HB.out hx200_0; replace hx200_1 := pw_cell_below HB.out hx200_1; replace hx200_2 := pw_cell_below HB.out hx200_2; replace hx200_0 := (cell_far (p := ⟨gb199, 0, none⟩) (by first | (rw [add_block]; exact hn200_0) | (show (Addr.add _ _).block ≠ _; rw [add_block]; exact hn200_0) | exact hn200_0) (.int .i64 0)).trans hx200_0; replace hx200_1 := (cell_far (p := ⟨gb199, 0, none⟩) (by first | (rw [add_block]; exact hn200_0) | (show (Addr.add _ _).block ≠ _; rw [add_block]; exact hn200_0) | exact hn200_0) (.int .i64 0)).trans hx200_1; replace hx200_2 := (cell_far (p := ⟨gb199, 0, none⟩) (by first | (rw [add_block]; exact hn200_0) | (show (Addr.add _ _).block ≠ _; rw [add_block]; exact hn200_0) | exact hn200_0) (.int .i64 0)).trans hx200_2; replace hx200_0 := (cell_far (p := ⟨gb199, 1, none⟩) (by first | (rw [add_block]; exact hn200_1) | (show (Addr.add _ _).block ≠ _; rw [add_block]; exact hn200_1) | exact hn200_1) (.int .i64 0)).trans hx200_0; replace hx200_1 := (cell_far (p := ⟨gb199, 1, none⟩) (by first | (rw [add_block]; exact hn200_1) | (show (Addr.add _ _).block ≠ _; rw [add_block]; exact hn200_1) | exact hn200_1) (.int .i64 0)).trans hx200_1; replace hx200_2 := (cell_far (p := ⟨gb199, 1, none⟩) (by first | (rw [add_block]; exact hn200_1) | (show (Addr.add _ _).block ≠ _; rw [add_block]; exact hn200_1) | exact hn200_1) (.int .i64 0)).trans hx200_2; replace hx200_0 := (cell_far (p := ⟨gb199, 2, none⟩) (by first | (rw [add_block]; exact hn200_2) | (show (Addr.add _ _).block ≠ _; rw [add_block]; exact hn200_2) | exact hn200_2) (.int .i64 0)).trans hx200_0; replace hx200_1 := (cell_far (p := ⟨gb199, 2, none⟩) (by first | (rw [add_block]; exact hn200_2) | (show (Addr.add _ _).block ≠ _; rw [add_block]; exact hn200_2) | exact hn200_2) (.int .i64 0)).trans hx200_1; replace hx200_2 := (cell_far (p := ⟨gb199, 2, none⟩) (by first | (rw [add_block]; exact hn200_2) | (show (Addr.add _ _).block ≠ _; rw [add_block]; exact hn200_2) | exact hn200_2) (.int .i64 0)).trans hx200_2; clear hn200_0; clear hn200_1; clear hn200_2; replace p200 := eq_true p200; replace q200 := eq_true q200))
                clear hx200_0 hx200_1 hx200_2
                have HO6 := ((Kd.R_mono (Kd.R_far (p := ⟨gb199, 2, none⟩) (Kd.R_far (p := ⟨gb199, 1, none⟩) (Kd.R_far (p := ⟨gb199, 0, none⟩) (Kd.R_far (p := ⟨gb199, 2, none⟩) (Kd.R_far (p := ⟨gb199, 1, none⟩) (Kd.R_far (p := ⟨gb199, 0, none⟩) (Kd.R_types HO_3.out BK199.out (by decide)) (fun _ hk => hk.2) (.int .i64 0)) (fun _ hk => hk.2) (.int .i64 0)) (fun _ hk => hk.2) (.int .i64 0)) (fun _ hk => hk.2) (.int .i64 ((rd_T48 l0_7 x34_1).f0))) (fun _ hk => hk.2) (.int .i64 ((rd_T48 l0_7 x34_1).f1))) (fun _ hk => hk.2) (.int .i64 ((rd_T48 l0_7 x34_1).f2))) (fun _ h_ => h_.1)) : Kd.R (Kd.int .i64) 3 (((((((w29).setCell ⟨gb199, 0, none⟩ (.int .i64 0)).setCell ⟨gb199, 1, none⟩ (.int .i64 0)).setCell ⟨gb199, 2, none⟩ (.int .i64 0)).setCell ⟨gb199, 0, none⟩ (.int .i64 ((rd_T48 l0_7 x34_1).f0))).setCell ⟨gb199, 1, none⟩ (.int .i64 ((rd_T48 l0_7 x34_1).f1))).setCell ⟨gb199, 2, none⟩ (.int .i64 ((rd_T48 l0_7 x34_1).f2))) w.heap.size (fun _ => True) u3 x3_1)
                have BK6 : (((((((w29).setCell ⟨gb199, 0, none⟩ (.int .i64 0)).setCell ⟨gb199, 1, none⟩ (.int .i64 0)).setCell ⟨gb199, 2, none⟩ (.int .i64 0)).setCell ⟨gb199, 0, none⟩ (.int .i64 ((rd_T48 l0_7 x34_1).f0))).setCell ⟨gb199, 1, none⟩ (.int .i64 ((rd_T48 l0_7 x34_1).f1))).setCell ⟨gb199, 2, none⟩ (.int .i64 ((rd_T48 l0_7 x34_1).f2))).heap[gb183]? = some (.cells #[.int .i64 a0_0, .int .i64 a0_1, .int .i64 a0_2, .int .i64 a0_3, .slice A0_4 l0_4.length c0_4, .int .i64 a0_5, .int .i64 a0_6, .slice (some ad200) l0_7.length c0_7, .int .i64 a0_8] 25 (0, 0)) := by exact blk_far (blk_far (blk_far (blk_far (blk_far (blk_far BK183.out NB183_199.out _) NB183_199.out _) NB183_199.out _) NB183_199.out _) NB183_199.out _) NB183_199.out _
                have BL6 : (((((((w29).setCell ⟨gb199, 0, none⟩ (.int .i64 0)).setCell ⟨gb199, 1, none⟩ (.int .i64 0)).setCell ⟨gb199, 2, none⟩ (.int .i64 0)).setCell ⟨gb199, 0, none⟩ (.int .i64 ((rd_T48 l0_7 x34_1).f0))).setCell ⟨gb199, 1, none⟩ (.int .i64 ((rd_T48 l0_7 x34_1).f1))).setCell ⟨gb199, 2, none⟩ (.int .i64 ((rd_T48 l0_7 x34_1).f2))).heap[gb199]? = some (.cells #[.int .i64 ((rd_T48 l0_7 x34_1).f0), .int .i64 ((rd_T48 l0_7 x34_1).f1), .int .i64 ((rd_T48 l0_7 x34_1).f2)] 48 (0, 0)) := by
                 refine blk_put (cs := #[.int .i64 ((rd_T48 l0_7 x34_1).f0), .int .i64 ((rd_T48 l0_7 x34_1).f1), .int .i64 0]) ?_ 2 _ rfl
                 refine blk_put (cs := #[.int .i64 ((rd_T48 l0_7 x34_1).f0), .int .i64 0, .int .i64 0]) ?_ 1 _ rfl
                 refine blk_put (cs := #[.int .i64 0, .int .i64 0, .int .i64 0]) ?_ 0 _ rfl
                 refine blk_put (cs := #[.int .i64 0, .int .i64 0, .int .i64 0]) ?_ 2 _ rfl
                 refine blk_put (cs := #[.int .i64 0, .int .i64 0, .int .i64 0]) ?_ 1 _ rfl
                 refine blk_put (cs := #[.int .i64 0, .int .i64 0, .int .i64 0]) ?_ 0 _ rfl
                 exact BK199.out
                have HB6 : Below w.heap.size w (((((((w29).setCell ⟨gb199, 0, none⟩ (.int .i64 0)).setCell ⟨gb199, 1, none⟩ (.int .i64 0)).setCell ⟨gb199, 2, none⟩ (.int .i64 0)).setCell ⟨gb199, 0, none⟩ (.int .i64 ((rd_T48 l0_7 x34_1).f0))).setCell ⟨gb199, 1, none⟩ (.int .i64 ((rd_T48 l0_7 x34_1).f1))).setCell ⟨gb199, 2, none⟩ (.int .i64 ((rd_T48 l0_7 x34_1).f2))) := by exact below_set (below_set (below_set (below_set (below_set (below_set HB.out GE199.out) GE199.out) GE199.out) GE199.out) GE199.out) GE199.out
                generalize ((((((w29).setCell ⟨gb199, 0, none⟩ (.int .i64 0)).setCell ⟨gb199, 1, none⟩ (.int .i64 0)).setCell ⟨gb199, 2, none⟩ (.int .i64 0)).setCell ⟨gb199, 0, none⟩ (.int .i64 ((rd_T48 l0_7 x34_1).f0))).setCell ⟨gb199, 1, none⟩ (.int .i64 ((rd_T48 l0_7 x34_1).f1))).setCell ⟨gb199, 2, none⟩ (.int .i64 ((rd_T48 l0_7 x34_1).f2)) = W6 at HO6 BK6 BL6 HB6 ⊢
                clear HO_3 BK183 BK199 HB
                have HO_3 := Aside0.mk HO6; have BK183 := Aside0.mk BK6; have BK199 := Aside0.mk BL6; have HB := Aside0.mk HB6
                clear HO6 BK6 BL6 HB6
                have hcz50_0 : W6.cell? ⟨gb199, 0, none⟩ = some (.int .i64 ((rd_T48 l0_7 x34_1).f0)) := (blk_cell BK199.out 0).trans rfl
                have hcz50_1 : W6.cell? ⟨gb199, 1, none⟩ = some (.int .i64 ((rd_T48 l0_7 x34_1).f1)) := (blk_cell BK199.out 1).trans rfl
                have hcz50_2 : W6.cell? ⟨gb199, 2, none⟩ = some (.int .i64 ((rd_T48 l0_7 x34_1).f2)) := (blk_cell BK199.out 2).trans rfl
                go_wp2_with (first | ((with_reducible refine gate_dst (N := 55) rfl ?_); refine Kd.R_lit (Kd.int .i64) _ 3 ?hg (N := 55) ?hd (xs := ([(rd_T48 l0_7 x34_1).f0, (rd_T48 l0_7 x34_1).f1, (rd_T48 l0_7 x34_1).f2] : List Int)) (inner := [.int .i64 ((rd_T48 l0_7 x34_1).f0), .int .i64 ((rd_T48 l0_7 x34_1).f1), .int .i64 ((rd_T48 l0_7 x34_1).f2)]) (ok := fun _ => True) (okp := fun _ => True) ?hr ?hp (fun _ hk => hk) trivial (Below.refl _ _) (Nat.le_refl _) (by simp) ?_; (case hd => rfl); (case hg => rfl); (case hr => first | (go_simp; done) | (go_simp; rfl)); (case hp => exact (Reps.one (show Kd.M (Kd.int .i64) _ _ _ ((rd_T48 l0_7 x34_1).f0) [.int .i64 ((rd_T48 l0_7 x34_1).f0)] from rfl) (Reps.one (show Kd.M (Kd.int .i64) _ _ _ ((rd_T48 l0_7 x34_1).f1) [.int .i64 ((rd_T48 l0_7 x34_1).f1)] from rfl) (Reps.one (show Kd.M (Kd.int .i64) _ _ _ ((rd_T48 l0_7 x34_1).f2) [.int .i64 ((rd_T48 l0_7 x34_1).f2)] from rfl) (Reps.none _ _))))); intro v202 w33 ho34 hb hg_ hnew_; clear hg_ hnew_; (first | rw [← Ny201.out] at ho34 | (simp only [Int.reduceToNat] at ho34; rw [← Ny201.out] at ho34)); have HO203 := Aside0.mk (Kd.R_lower (Kd.R_new' ho34 (Kd.R_lt (zr HO_3.out))) (below_size (zh2 HB.out GE183.out GE199.out))); replace HO_3 := Aside0.mk (Kd.R_elder' (zr HO_3.out) (Kd.R_base ho34) hb); replace BK183 := Aside0.mk (zB BK183.out hb); replace BK199 := Aside0.mk (zB BK199.out hb); replace HB := Aside0.mk (below_step (zh2 HB.out GE183.out GE199.out) hb); clear hb ho34; obtain ⟨Ao36, co36, eo36⟩ := Kd.R_slice HO203.out; subst eo36) | ((with_reducible refine gate_builtin (b := .append) (xs := #[.tmp 48, .tmp 55]) rfl ?_); at_builtin; refine Kd.R_append_rows (Kd.int .i64) (w0 := w) w.heap.size rfl (.tmp 48) (.tmp 55) 22 3 (.int .i64 0) 8 rfl Try.underlying22 info3 rfl (by decide) (by omega) u3 x3_1 y201 _ _ _ (fun k_ => some k_ ≠ (.slice Ao36 y201.length co36 : Value).ownBlock) (fun _ => False) rfl rfl ?aO ?aR (fun _ _ h => h) (fun _ h => h.elim) ?aF ?aB ?aS ?aL ?_; (case aR => repeat (first | exact (Kd.R_reads' HO203.out).2.2 | (with_reducible refine Kd.C_alloc ?_ _) | (with_reducible refine Kd.C_drewN ?_ _) | (with_reducible refine Kd.C_drew ?_))); (case aB => exact (zh2 HB.out GE183.out GE199.out)); (case aF => exact (fun k_ hk => Kd.fresh' (Kd.R_lt (zr HO203.out)) k_ hk)); (case aO => exact (by (with_reducible repeat (first | apply Kd.R_alloc | apply Kd.R_drewN | apply Kd.R_drew)); exact Kd.R_mono HO_3.out (fun _ hk => hk.2))); (case aS => exact (below_size (zh2 HB.out GE183.out GE199.out))); (case aL => have := LMc28.out; omega); intro v205 w35 ho hb hg hat; rw [← Ny204.out] at ho; replace BK183 := Aside0.mk (blk_grown (g := gb183) (o := .cells #[.int .i64 a0_0, .int .i64 a0_1, .int .i64 a0_2, .int .i64 a0_3, .slice A0_4 l0_4.length c0_4, .int .i64 a0_5, .int .i64 a0_6, .slice (some ad200) l0_7.length c0_7, .int .i64 a0_8] 25 (0, 0)) (zb BK183.out) hg (Kd.R_ne HO_3.out BK183.out (by decide))); replace BK199 := Aside0.mk (blk_grown (g := gb199) (o := .cells #[.int .i64 ((rd_T48 l0_7 x34_1).f0), .int .i64 ((rd_T48 l0_7 x34_1).f1), .int .i64 ((rd_T48 l0_7 x34_1).f2)] 48 (0, 0)) (zb BK199.out) hg (Kd.R_ne HO_3.out BK199.out (by decide))); replace HO203 := Aside0.mk (Kd.R_after (ok := (fun _ => True)) (zr HO203.out) hg hat); replace HB := Aside0.mk (hb); have HO206 := Aside0.mk (ho); (try clear HO_3); clear ho hb hg hat))
                go_roundg k1
                case measure => have := HK1.out; omega
                case rel => exact ⟨(y204), (wrap64 (x34_1 + 1)), (zs), H', ⟨by have := HK1.out; omega⟩, ⟨by (with_reducible repeat (first | apply Kd.R_alloc | apply Kd.R_drewN | apply Kd.R_drew)); exact Kd.R_mono HO206.out (fun _ hk => trivial)⟩, ⟨zb BK183.out⟩, ⟨zh2 HB.out GE183.out GE199.out⟩⟩
              · rw [if_neg c28] at H
                exact absurd H (by simp)
            · rw [if_neg c27] at H
              exact absurd H (by simp)
          · rw [if_neg c26] at H
            have c26b0 : decide (x34_1 < (l0_7.length : Int)) = false := decide_eq_false c26
            clear c26
            obtain ⟨y207, hy207⟩ : ∃ y_ : List Int, y_ = (([0, 0, 0] : List Int)) := ⟨_, rfl⟩
            replace H : (if x3_1.length + y207.length < 17592186044416 then (cards_values.l0 k1 (x3_1 ++ y207) (wrap64 (x34_1 + 1)) a0_0 a0_1 a0_2 a0_3 l0_4 a0_5 a0_6 l0_7 a0_8) else (none)) = some r := by first | (rw [hy207]; with_reducible exact H) | (have H2_ := (Option.bind_some _ _).symm.trans H; rw [hy207]; with_reducible exact H2_) | (have H2_ := (Option.bind_some _ _).symm.trans H; with_reducible exact H2_) | with_reducible exact H | (rw [hy207]; exact H) | exact H
            have Ny207 := Aside0.mk hy207
            clear hy207
            by_cases c37 : x3_1.length + y207.length < 17592186044416
            · rw [if_pos c37] at H
              have LMc37 := Aside0.mk c37
              clear c37
              obtain ⟨y210, hy210⟩ : ∃ y_ : List Int, y_ = (x3_1 ++ y207) := ⟨_, rfl⟩
              replace H : (cards_values.l0 k1 y210 (wrap64 (x34_1 + 1)) a0_0 a0_1 a0_2 a0_3 l0_4 a0_5 a0_6 l0_7 a0_8) = some r := by first | (rw [hy210]; with_reducible exact H) | (have H2_ := (Option.bind_some _ _).symm.trans H; rw [hy210]; with_reducible exact H2_) | (have H2_ := (Option.bind_some _ _).symm.trans H; with_reducible exact H2_) | with_reducible exact H | (rw [hy210]; exact H) | exact H
              have Ny210 := Aside0.mk hy210
              clear hy210
              have H' := Aside0.mk H
              clear H
              go_wp2_with (first | ((with_reducible refine gate_dst (N := 5) rfl ?_); refine zbx (N := 5) (cs := #[.int .i64 0, .int .i64 0, .int .i64 0]) (t := 48) ?_; intro gb199 hg w38 hbox hb; replace HO_3 := Aside0.mk (zR HO_3.out hb); have BK199 := Aside0.mk (hbox); have GW199 := Aside0.mk ((by rw [hg]; exact (below_size (zh1 HB.out GE183.out)) : w.heap.size ≤ gb199)); have GE199 := GW199; replace HB := Aside0.mk (below_step (zh1 HB.out GE183.out) hb); have NB183_199 := Aside0.mk ((by rw [hg]; exact Nat.ne_of_lt (blk_lt (g := gb183) (o := .cells #[.int .i64 a0_0, .int .i64 a0_1, .int .i64 a0_2, .int .i64 a0_3, .slice A0_4 l0_4.length c0_4, .int .i64 a0_5, .int .i64 a0_6, .slice A0_7 l0_7.length c0_7, .int .i64 a0_8] 25 (0, 0)) (zb BK183.out)) : gb183 ≠ gb199)); have NB199_183 := Aside0.mk ((by rw [hg]; exact Nat.ne_of_gt (blk_lt (g := gb183) (o := .cells #[.int .i64 a0_0, .int .i64 a0_1, .int .i64 a0_2, .int .i64 a0_3, .slice A0_4 l0_4.length c0_4, .int .i64 a0_5, .int .i64 a0_6, .slice A0_7 l0_7.length c0_7, .int .i64 a0_8] 25 (0, 0)) (zb BK183.out)) : gb199 ≠ gb183)); replace BK183 := Aside0.mk (zB BK183.out hb); clear hb hbox hg; have hnb39 := NB199_183.out; have hnc39 := NB183_199.out; obtain ⟨hcz40_0, hcz40_1, hcz40_2⟩ := cells3 BK199.out; have hfz40_0 := blk_frozen BK199.out 0; have hfz40_1 := blk_frozen BK199.out 1; have hfz40_2 := blk_frozen BK199.out 2; obtain ⟨hcz41_0, hcz41_1, hcz41_2, hcz41_3, hcz41_4, hcz41_5, hcz41_6, hcz41_7, hcz41_8⟩ := cells9 BK183.out; obtain ⟨hfz41_0, hfz41_1, hfz41_2, hfz41_3, hfz41_4, hfz41_5, hfz41_6, hfz41_7, hfz41_8⟩ := frozen9 BK183.out) | ((with_reducible refine gate_dst (N := 55) rfl ?_); refine Kd.R_lit (Kd.int .i64) _ 3 ?hg (N := 55) ?hd (xs := ([0, 0, 0] : List Int)) (inner := [.int .i64 0, .int .i64 0, .int .i64 0]) (ok := fun _ => True) (okp := fun _ => True) ?hr ?hp (fun _ hk => hk) trivial (Below.refl _ _) (Nat.le_refl _) (by simp) ?_; (case hd => rfl); (case hg => rfl); (case hr => first | (go_simp; done) | (go_simp; rfl)); (case hp => exact (Reps.one (show Kd.M (Kd.int .i64) _ _ _ 0 [.int .i64 0] from rfl) (Reps.one (show Kd.M (Kd.int .i64) _ _ _ 0 [.int .i64 0] from rfl) (Reps.one (show Kd.M (Kd.int .i64) _ _ _ 0 [.int .i64 0] from rfl) (Reps.none _ _))))); intro v208 w42 ho43 hb hg_ hnew_; clear hg_ hnew_; (first | rw [← Ny207.out] at ho43 | (simp only [Int.reduceToNat] at ho43; rw [← Ny207.out] at ho43)); have HO209 := Aside0.mk (Kd.R_lower (Kd.R_new' ho43 (Kd.R_lt (by (with_reducible repeat (first | apply Kd.R_alloc | apply Kd.R_drewN | apply Kd.R_drew)); exact (Kd.R_mono (Kd.R_far (p := ⟨gb199, 2, none⟩) (Kd.R_far (p := ⟨gb199, 1, none⟩) (Kd.R_far (p := ⟨gb199, 0, none⟩) (Kd.R_types HO_3.out BK199.out (by decide)) (fun _ hk => hk.2) (.int .i64 0)) (fun _ hk => hk.2) (.int .i64 0)) (fun _ hk => hk.2) (.int .i64 0)) (fun _ h_ => h_.1))))) (below_size (zh2 HB.out GE183.out GE199.out))); replace HO_3 := Aside0.mk (Kd.R_elder' (by (with_reducible repeat (first | apply Kd.R_alloc | apply Kd.R_drewN | apply Kd.R_drew)); exact (Kd.R_mono (Kd.R_far (p := ⟨gb199, 2, none⟩) (Kd.R_far (p := ⟨gb199, 1, none⟩) (Kd.R_far (p := ⟨gb199, 0, none⟩) (Kd.R_types HO_3.out BK199.out (by decide)) (fun _ hk => hk.2) (.int .i64 0)) (fun _ hk => hk.2) (.int .i64 0)) (fun _ hk => hk.2) (.int .i64 0)) (fun _ h_ => h_.1))) (Kd.R_base ho43) hb); replace BK183 := Aside0.mk (blk_below (g := gb183) (o := .cells #[.int .i64 a0_0, .int .i64 a0_1, .int .i64 a0_2, .int .i64 a0_3, .slice A0_4 l0_4.length c0_4, .int .i64 a0_5, .int .i64 a0_6, .slice A0_7 l0_7.length c0_7, .int .i64 a0_8] 25 (0, 0)) (by (with_reducible repeat (first | refine blk_drewN ?_ _ | refine blk_drew ?_ | refine blk_alloc ?_ _)); refine blk_far ?_ NB183_199.out _; (with_reducible repeat (first | refine blk_drewN ?_ _ | refine blk_drew ?_ | refine blk_alloc ?_ _)); refine blk_far ?_ NB183_199.out _; (with_reducible repeat (first | refine blk_drewN ?_ _ | refine blk_drew ?_ | refine blk_alloc ?_ _)); refine blk_far ?_ NB183_199.out _; (with_reducible repeat (first | refine blk_drewN ?_ _ | refine blk_drew ?_ | refine blk_alloc ?_ _)); exact BK183.out) hb); replace BK199 := Aside0.mk (blk_below (g := gb199) (o := .cells #[.int .i64 0, .int .i64 0, .int .i64 0] 48 (0, 0)) (by (with_reducible repeat (first | refine blk_drewN ?_ _ | refine blk_drew ?_ | refine blk_alloc ?_ _)); refine blk_put (cs := #[.int .i64 0, .int .i64 0, .int .i64 0]) ?_ 2 _ rfl; (with_reducible repeat (first | refine blk_drewN ?_ _ | refine blk_drew ?_ | refine blk_alloc ?_ _)); refine blk_put (cs := #[.int .i64 0, .int .i64 0, .int .i64 0]) ?_ 1 _ rfl; (with_reducible repeat (first | refine blk_drewN ?_ _ | refine blk_drew ?_ | refine blk_alloc ?_ _)); refine blk_put (cs := #[.int .i64 0, .int .i64 0, .int .i64 0]) ?_ 0 _ rfl; (with_reducible repeat (first | refine blk_drewN ?_ _ | refine blk_drew ?_ | refine blk_alloc ?_ _)); exact BK199.out) hb); replace HB := Aside0.mk (below_step (zh2 HB.out GE183.out GE199.out) hb); clear hb ho43; obtain ⟨Ao45, co45, eo45⟩ := Kd.R_slice HO209.out; subst eo45) | ((with_reducible refine gate_builtin (b := .append) (xs := #[.tmp 48, .tmp 55]) rfl ?_); at_builtin; refine Kd.R_append_rows (Kd.int .i64) (w0 := w) w.heap.size rfl (.tmp 48) (.tmp 55) 22 3 (.int .i64 0) 8 rfl Try.underlying22 info3 rfl (by decide) (by omega) u3 x3_1 y207 _ _ _ (fun k_ => some k_ ≠ (.slice Ao45 y207.length co45 : Value).ownBlock) (fun _ => False) rfl rfl ?aO ?aR (fun _ _ h => h) (fun _ h => h.elim) ?aF ?aB ?aS ?aL ?_; (case aR => repeat (first | exact (Kd.R_reads' HO209.out).2.2 | (with_reducible refine Kd.C_alloc ?_ _) | (with_reducible refine Kd.C_drewN ?_ _) | (with_reducible refine Kd.C_drew ?_))); (case aB => exact (zh2 HB.out GE183.out GE199.out)); (case aF => exact (fun k_ hk => Kd.fresh' (Kd.R_lt (zr HO209.out)) k_ hk)); (case aO => exact (by (with_reducible repeat (first | apply Kd.R_alloc | apply Kd.R_drewN | apply Kd.R_drew)); exact Kd.R_mono HO_3.out (fun _ hk => hk.2))); (case aS => exact (below_size (zh2 HB.out GE183.out GE199.out))); (case aL => have := LMc37.out; omega); intro v211 w44 ho hb hg hat; rw [← Ny210.out] at ho; replace BK183 := Aside0.mk (blk_grown (g := gb183) (o := .cells #[.int .i64 a0_0, .int .i64 a0_1, .int .i64 a0_2, .int .i64 a0_3, .slice A0_4 l0_4.length c0_4, .int .i64 a0_5, .int .i64 a0_6, .slice A0_7 l0_7.length c0_7, .int .i64 a0_8] 25 (0, 0)) (zb BK183.out) hg (Kd.R_ne HO_3.out BK183.out (by decide))); replace BK199 := Aside0.mk (blk_grown (g := gb199) (o := .cells #[.int .i64 0, .int .i64 0, .int .i64 0] 48 (0, 0)) (zb BK199.out) hg (Kd.R_ne HO_3.out BK199.out (by decide))); replace HO209 := Aside0.mk (Kd.R_after (ok := (fun _ => True)) (zr HO209.out) hg hat); replace HB := Aside0.mk (hb); have HO212 := Aside0.mk (ho); (try clear HO_3); clear ho hb hg hat))
              go_roundg k1
              case measure => have := HK1.out; omega
              case rel => exact ⟨(y210), (wrap64 (x34_1 + 1)), (zs), H', ⟨by have := HK1.out; omega⟩, ⟨by (with_reducible repeat (first | apply Kd.R_alloc | apply Kd.R_drewN | apply Kd.R_drew)); exact Kd.R_mono HO212.out (fun _ hk => trivial)⟩, ⟨zb BK183.out⟩, ⟨zh2 HB.out GE183.out GE199.out⟩⟩
            · rw [if_neg c37] at H
              exact absurd H (by simp)
        · rw [if_neg c25] at H
          have c25b0 : decide (x34_1 < 3) = false := decide_eq_false c25
          clear c25
          by_cases c46 : x3_1.length < 17592186044416
          · rw [if_pos c46] at H
            have LMc46 := Aside0.mk c46
            clear c46
            obtain ⟨y213, hy213⟩ : ∃ y_ : List Int, y_ = (x3_1 ++ [a0_8]) := ⟨_, rfl⟩
            replace H : (some y213) = some r := by first | (rw [hy213]; with_reducible exact H) | (have H2_ := (Option.bind_some _ _).symm.trans H; rw [hy213]; with_reducible exact H2_) | (have H2_ := (Option.bind_some _ _).symm.trans H; with_reducible exact H2_) | with_reducible exact H | (rw [hy213]; exact H) | exact H
            have Ny213 := Aside0.mk hy213
            clear hy213
            obtain rfl := Option.some.inj H
            obtain ⟨hcz47_0, hcz47_1, hcz47_2, hcz47_3, hcz47_4, hcz47_5, hcz47_6, hcz47_7, hcz47_8⟩ := cells9 BK183.out
            obtain ⟨hfz47_0, hfz47_1, hfz47_2, hfz47_3, hfz47_4, hfz47_5, hfz47_6, hfz47_7, hfz47_8⟩ := frozen9 BK183.out
            go_wp2_with (first | ((with_reducible refine gate_builtin (b := .append) (xs := #[.tmp 58, .tmp 61]) rfl ?_); at_builtin; refine Kd.R_append (Kd.int .i64) (w0 := w) w.heap.size rfl (.tmp 58) (.tmp 61) 22 3 (.int .i64 0) 8 rfl Try.underlying22 info3 rfl (by decide) (by omega) u3 x3_1 a0_8 [.int .i64 a0_8] (fun _ => True) (fun _ => False) rfl rfl ?aP (fun _ hk => hk.elim) ?aF ?aO ?aB ?aS ?aL ?_; (case aP => exact rfl); (case aB => exact (zh1 HB.out GE183.out)); (case aF => exact (fun _ _ => trivial)); (case aO => exact (zr HO_3.out)); (case aS => exact (below_size (zh1 HB.out GE183.out))); (case aL => have := LMc46.out; omega); intro v214 w48 ho hb hg hat; rw [← Ny213.out] at ho; replace BK183 := Aside0.mk (blk_grown (g := gb183) (o := .cells #[.int .i64 a0_0, .int .i64 a0_1, .int .i64 a0_2, .int .i64 a0_3, .slice A0_4 l0_4.length c0_4, .int .i64 a0_5, .int .i64 a0_6, .slice A0_7 l0_7.length c0_7, .int .i64 a0_8] 25 (0, 0)) (zb BK183.out) hg (Kd.R_ne HO_3.out BK183.out (by decide))); replace HB := Aside0.mk (hb); have HO215 := Aside0.mk (ho); (try clear HO_3); clear ho hb hg hat))
            go_ret
            exact ⟨_, ze, zr HO215.out, zh1 HB.out GE183.out⟩
          · rw [if_neg c46] at H
            exact absurd H (by simp)
   · rw [if_neg c18] at H
     exact absurd H (by simp)

end Go.Proofs.Ytgigoogekimgkaa.GCrd
