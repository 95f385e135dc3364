/- printed for this claim by gprint.py, a program of this session, that drives the kit's printer. -/
import Derived.Test.YtgigoogekimgkaaGCrdx0
import Derived.Test.YtgigoogekimgkaaZ
import Derived.Test.YtgigoogekimgkaaGCrdx2
import Derived.Test.YtgigoogekimgkaaGCrdx5
import Derived.Test.YtgigoogekimgkaaGCrdx6
import Derived.Test.YtgigoogekimgkaaGCrdx7
namespace Go.Proofs.Ytgigoogekimgkaa.GCrd
open Go.RowKit Go.Proofs.YtgigoogekimgkaaW.PrintWords Go.Proofs.YtgigoogekimgkaaW.PrintLast Go.Proofs.YtgigoogekimgkaaW.PrintMore
attribute [local go_sem] max2_int min2_int max_two min_two max_three min_three max_four min_four   -- for this text's walks alone
set_option linter.unusedVariables false
set_option linter.unusedSimpArgs false

/-! ### cards_Write: function 9 -/
def cards_Write.f (k : Nat) (a0_0 : Int) (a0_1 : Int) (a0_2 : Int) (a0_3 : Int) (l0_4 : List Int) (a0_5 : Int) (a0_6 : Int) (l0_7 : List (S48)) (a0_8 : Int) : Option (ByteArray × Int) := (cards_Right.f k a0_0 a0_1 a0_2 a0_3 l0_4 a0_5 a0_6 l0_7 a0_8).bind fun t217 => (if t217 = true then ((cards_none.f k a0_0 a0_1 a0_2 a0_3 l0_4 a0_5 a0_6 l0_7 a0_8).bind fun t218 => (if t218 = true then ((mould_Pad.f k (⟨#[]⟩ : ByteArray) 32).bind fun bt219 => (some (bt219.1, bt219.2))) else ((cards_moulds.f a0_0).bind fun t221 => ((cards_values.f k a0_0 a0_1 a0_2 a0_3 l0_4 a0_5 a0_6 l0_7 a0_8).bind fun t224 => ((mould_Write.f k t221 t224).bind fun bt227 => (if bt227.2 = 0 then ((mould_Pad.f k bt227.1 32).bind fun bt229 => (some (bt229.1, bt229.2))) else (some ((⟨#[]⟩ : ByteArray), 1)))))))) else (some ((⟨#[]⟩ : ByteArray), 1)))
theorem cards_Write.mono : ∀ a0 a1 a2 a3 a4 a5 a6 a7 a8 k, LeO (cards_Write.f k a0 a1 a2 a3 a4 a5 a6 a7 a8) (cards_Write.f (k + 1) a0 a1 a2 a3 a4 a5 a6 a7 a8) := by
 intro a0 a1 a2 a3 a4 a5 a6 a7 a8 k
 unfold cards_Write.f
 repeat' first
  | (with_reducible exact cards_Right.mono _ _ _ _ _ _ _ _ _ _)
  | (with_reducible exact cards_none.mono _ _ _ _ _ _ _ _ _ _)
  | (with_reducible exact cards_values.mono _ _ _ _ _ _ _ _ _ _)
  | (with_reducible exact mould_Pad.mono _ _ _)
  | (with_reducible exact mould_Write.mono _ _ _)
  | (with_reducible exact LeO.refl _)
  | (with_reducible exact LeO.none _)
  | (with_reducible refine LeO.ite ?_ ?_)
  | (with_reducible refine LeO.bind ?_ (fun _ => ?_))
  | exact cards_Right.mono _ _ _ _ _ _ _ _ _ _
  | exact cards_none.mono _ _ _ _ _ _ _ _ _ _
  | exact cards_values.mono _ _ _ _ _ _ _ _ _ _
  | exact mould_Pad.mono _ _ _
  | exact mould_Write.mono _ _ _
  | exact LeO.none _
  | refine LeO.ite ?_ ?_
  | refine LeO.bind ?_ (fun _ => ?_)
def cards_Write.T5 : Bool × List (List Nat × List Nat) := (true, [([], []), ([0], [0]), ([1], [1]), ([], []), ([3, 2], [3]), ([2, 4, 4], [2, 4]), ([5], [5]), ([6], [6]), ([6], [6]), ([7, 5, 0, 1, 2, 3, 4, 5, 6, 7], [7]), ([8, 9, 0, 1, 2, 3, 4, 5, 6, 7, 8, 9], [8])])
def cards_Write.B5 : List Nat := [0, 1, 3, 0, 15, 31, 63, 127, 127, 255, 1023]
theorem cards_Write.tab5 : rtab .any (opsOf Try.f9 5) = cards_Write.T5 := by kernel_rfl
theorem cards_Write.bits5 : waitsOk cards_Write.T5.2 cards_Write.B5 = true := by kernel_rfl
set_option maxHeartbeats 8000000 in
set_option maxRecDepth 100000 in
theorem cards_Write.calls (k : Nat) (a0_0 : Int) (a0_1 : Int) (a0_2 : Int) (a0_3 : Int) (A0_4 : Option Addr) (c0_4 : Nat) (l0_4 : List Int) (a0_5 : Int) (a0_6 : Int) (A0_7 : Option Addr) (c0_7 : Nat) (l0_7 : List (S48)) (a0_8 : Int) (r1 : ByteArray) (r2 : Int) (w : World) (hr0_4 : Kd.C (Kd.int .i64) w A0_4 l0_4.length l0_4) (hc0_4 : l0_4.length ≤ c0_4) (hr0_7 : Kd.C k48 w A0_7 l0_7.length l0_7) (hc0_7 : l0_7.length ≤ c0_7) (h : cards_Write.f k a0_0 a0_1 a0_2 a0_3 l0_4 a0_5 a0_6 l0_7 a0_8 = some (r1, r2)) :
 Calls Try.prog 9 #[.agg #[.int .i64 a0_0, .int .i64 a0_1, .int .i64 a0_2, .int .i64 a0_3, .slice A0_4 l0_4.length c0_4, .int .i64 a0_5, .int .i64 a0_6, .slice A0_7 l0_7.length c0_7, .int .i64 a0_8]] w fun e w' => e = .returned (.tuple #[.string r1, .int .i64 r2]) ∧ Below w.heap.size w w' := by
 have hu25 := Try.underlying25
 have HR0_4 := Aside0.mk hr0_4
 have HC0_4 := Aside0.mk hc0_4
 clear hr0_4 hc0_4
 have HR0_7 := Aside0.mk hr0_7
 have HC0_7 := Aside0.mk hc0_7
 clear hr0_7 hc0_7
 have HB := Aside0.mk (Below.refl w.heap.size w)
 have H : ((cards_Right.f k a0_0 a0_1 a0_2 a0_3 l0_4 a0_5 a0_6 l0_7 a0_8).bind fun t217 => (if t217 = true then ((cards_none.f k a0_0 a0_1 a0_2 a0_3 l0_4 a0_5 a0_6 l0_7 a0_8).bind fun t218 => (if t218 = true then ((mould_Pad.f k (⟨#[]⟩ : ByteArray) 32).bind fun bt219 => (some (bt219.1, bt219.2))) else ((cards_moulds.f a0_0).bind fun t221 => ((cards_values.f k a0_0 a0_1 a0_2 a0_3 l0_4 a0_5 a0_6 l0_7 a0_8).bind fun t224 => ((mould_Write.f k t221 t224).bind fun bt227 => (if bt227.2 = 0 then ((mould_Pad.f k bt227.1 32).bind fun bt229 => (some (bt229.1, bt229.2))) else (some ((⟨#[]⟩ : ByteArray), 1)))))))) else (some ((⟨#[]⟩ : ByteArray), 1)))) = some (r1, r2) := h
 clear h
 replace H := Option.bind_eq_some_iff.mp H
 obtain ⟨tq0, Aq0z, H⟩ := H
 have Aq0 := Aside0.mk Aq0z
 clear Aq0z
 by_cases c3 : tq0 = true
 all_goals (first
  | (skip
     subst c3
     rw [if_pos rfl] at H
     replace H := Option.bind_eq_some_iff.mp H
     obtain ⟨tq1, Aq1z, H⟩ := H
     have Aq1 := Aside0.mk Aq1z
     clear Aq1z
     by_cases c5 : tq1 = true
     all_goals (first
      | (skip
         subst c5
         rw [if_pos rfl] at H
         replace H := Option.bind_eq_some_iff.mp H
         obtain ⟨⟨t219, t220⟩, A60, H⟩ := H
         replace H : (some (t219, t220)) = some (r1, r2) := H
         have A6 := Aside0.mk A60
         clear A60
         simp only [Option.some.injEq, Prod.mk.injEq] at H
         obtain ⟨rfl, rfl⟩ := H
         have C0_ : True := trivial
         have S0_ : True := trivial)
      | (skip
         replace c5 := Bool.eq_false_iff.mpr c5
         subst c5
         rw [if_neg (show ¬ (false = true) by decide)] at H
         replace H := Option.bind_eq_some_iff.mp H
         obtain ⟨tq2, Aq2z, H⟩ := H
         have Aq2 := Aside0.mk Aq2z
         clear Aq2z
         replace H := Option.bind_eq_some_iff.mp H
         obtain ⟨tq3, Aq3z, H⟩ := H
         have Aq3 := Aside0.mk Aq3z
         clear Aq3z
         replace H := Option.bind_eq_some_iff.mp H
         obtain ⟨⟨t227, t228⟩, A150, H⟩ := H
         replace H : (if t228 = 0 then ((mould_Pad.f k t227 32).bind fun bt229 => (some (bt229.1, bt229.2))) else (some ((⟨#[]⟩ : ByteArray), 1))) = some (r1, r2) := H
         have A15 := Aside0.mk A150
         clear A150
         by_cases c16 : t228 = 0
         all_goals (first
          | (skip
             rw [if_pos c16] at H
             have c16b0 : (t228 == 0) = true := beq_iff_eq.mpr c16
             have c16b1 : (t228 != 0) = false := bne_eq_false_iff_eq.mpr c16
             clear c16
             replace H := Option.bind_eq_some_iff.mp H
             obtain ⟨⟨t229, t230⟩, A170, H⟩ := H
             replace H : (some (t229, t230)) = some (r1, r2) := H
             have A17 := Aside0.mk A170
             clear A170
             simp only [Option.some.injEq, Prod.mk.injEq] at H
             obtain ⟨rfl, rfl⟩ := H
             have C0_ : True := trivial
             have S1_ : True := trivial)
          | (skip
             rw [if_neg c16] at H
             have c16b0 : (t228 == 0) = false := beq_eq_false_iff_ne.mpr c16
             have c16b1 : (t228 != 0) = true := bne_iff_ne.mpr c16
             simp only [Option.some.injEq, Prod.mk.injEq] at H
             obtain ⟨rfl, rfl⟩ := H
             have C0_ : True := trivial
             have S2_ : True := trivial)))))
  | (skip
     replace c3 := Bool.eq_false_iff.mpr c3
     subst c3
     rw [if_neg (show ¬ (false = true) by decide)] at H
     simp only [Option.some.injEq, Prod.mk.injEq] at H
     obtain ⟨rfl, rfl⟩ := H
     have C0_ : True := trivial
     have S0_ : True := trivial))
 all_goals (
  first
  | (have _ := C0_
     go_enter Try.func9, Try.ntmps9
     go_wp2_with (first | ((with_reducible refine gate_dst (N := 1) rfl ?_); refine zbx (N := 1) (cs := #[.int .i64 a0_0, .int .i64 a0_1, .int .i64 a0_2, .int .i64 a0_3, .slice A0_4 l0_4.length c0_4, .int .i64 a0_5, .int .i64 a0_6, .slice A0_7 l0_7.length c0_7, .int .i64 a0_8]) (t := 25) ?_; intro gb216 hg wq1 hbox hb; have BK216 := Aside0.mk (hbox); have GW216 := Aside0.mk ((by rw [hg]; exact (below_size (zh0 HB.out)) : w.heap.size ≤ gb216)); have GE216 := GW216; replace HB := Aside0.mk (below_step (zh0 HB.out) hb); clear hb hbox hg; obtain ⟨hczq1_0, hczq1_1, hczq1_2, hczq1_3, hczq1_4, hczq1_5, hczq1_6, hczq1_7, hczq1_8⟩ := cells9 BK216.out; obtain ⟨hfzq1_0, hfzq1_1, hfzq1_2, hfzq1_3, hfzq1_4, hfzq1_5, hfzq1_6, hfzq1_7, hfzq1_8⟩ := frozen9 BK216.out) | ((with_reducible refine gate_callee (f := 11) rfl ?_); refine zgl (some 7) Try.func11 #[.agg #[.int .i64 a0_0, .int .i64 a0_1, .int .i64 a0_2, .int .i64 a0_3, .slice A0_4 l0_4.length c0_4, .int .i64 a0_5, .int .i64 a0_6, .slice A0_7 l0_7.length c0_7, .int .i64 a0_8]] ?_; (with_reducible refine (cards_Right.calls k a0_0 a0_1 a0_2 a0_3 (fun k_ => k_ < w.heap.size) _ _ l0_4 a0_5 a0_6 _ _ l0_7 a0_8 _ _ ?side1 ?side2 ?side3 Aq0.out).mono ?_); (case side1 => exact Kd.V_mk HC0_4.out (Kd.F_below (Kd.C_F (Kd.heap_int .i64) HR0_4.out) (zh1 HB.out GE216.out))); (case side2 => exact zc (Kd.C_below HR0_7.out HB.out)); (case side3 => exact HC0_7.out); rintro e wq7 ⟨rfl, hb⟩; refine ⟨_, rfl, ?_⟩; replace BK216 := Aside0.mk (zB BK216.out hb); replace HB := Aside0.mk (below_step (zh1 HB.out GE216.out) hb); (try clear hb); (try clear hb2); (try clear hk); (try clear hi); obtain ⟨hczq7_0, hczq7_1, hczq7_2, hczq7_3, hczq7_4, hczq7_5, hczq7_6, hczq7_7, hczq7_8⟩ := cells9 BK216.out; obtain ⟨hfzq7_0, hfzq7_1, hfzq7_2, hfzq7_3, hfzq7_4, hfzq7_5, hfzq7_6, hfzq7_7, hfzq7_8⟩ := frozen9 BK216.out) | ((with_reducible refine gate_callee (f := 11) rfl ?_); refine zgl (some 7) Try.func11 #[.agg #[.int .i64 a0_0, .int .i64 a0_1, .int .i64 a0_2, .int .i64 a0_3, .slice A0_4 l0_4.length c0_4, .int .i64 a0_5, .int .i64 a0_6, .slice A0_7 l0_7.length c0_7, .int .i64 a0_8]] ?_; (with_reducible refine (cards_Right.calls k a0_0 a0_1 a0_2 a0_3 (fun k_ => k_ < w.heap.size) _ _ l0_4 a0_5 a0_6 _ _ l0_7 a0_8 _ _ ?side1 ?side2 ?side3 Aq0.out).mono ?_); (case side1 => exact Kd.V_mk HC0_4.out (Kd.F_below (Kd.C_F (Kd.heap_int .i64) HR0_4.out) (zh1 HB.out GE216.out))); (case side2 => exact zc (Kd.C_below HR0_7.out HB.out)); (case side3 => exact HC0_7.out); rintro e wq7 ⟨rfl, hb⟩; refine ⟨_, rfl, ?_⟩; replace BK216 := Aside0.mk (zB BK216.out hb); replace HB := Aside0.mk (below_step (zh1 HB.out GE216.out) hb); (try clear hb); (try clear hb2); (try clear hk); (try clear hi)) | ((with_reducible refine gate_callee (f := 22) rfl ?_); refine zgl (some 10) Try.func22 #[.agg #[.int .i64 a0_0, .int .i64 a0_1, .int .i64 a0_2, .int .i64 a0_3, .slice A0_4 l0_4.length c0_4, .int .i64 a0_5, .int .i64 a0_6, .slice A0_7 l0_7.length c0_7, .int .i64 a0_8]] ?_; (with_reducible refine (cards_none.calls k a0_0 a0_1 a0_2 a0_3 _ _ l0_4 a0_5 a0_6 _ _ l0_7 a0_8 _ _ ?side1 ?side2 ?side3 ?side4 Aq1.out).mono ?_); (case side1 => exact zc (Kd.C_below HR0_4.out HB.out)); (case side2 => exact HC0_4.out); (case side3 => exact zc (Kd.C_below HR0_7.out HB.out)); (case side4 => exact HC0_7.out); rintro e wq10 ⟨rfl, hb⟩; refine ⟨_, rfl, ?_⟩; replace BK216 := Aside0.mk (zB BK216.out hb); replace HB := Aside0.mk (below_step (zh1 HB.out GE216.out) hb); (try clear hb); (try clear hb2); (try clear hk); (try clear hi)) | ((with_reducible refine gate_callee (f := 23) rfl ?_); refine zgl (some 11) Try.func23 #[.string (⟨#[]⟩ : ByteArray), .int .i64 32] ?_; (with_reducible refine (mould_Pad.calls k (⟨#[]⟩ : ByteArray) 32 t219 t220 _ A6.out).mono ?_); rintro e wq11 ⟨rfl, hb⟩; refine ⟨_, rfl, ?_⟩; replace BK216 := Aside0.mk (zB BK216.out hb); replace HB := Aside0.mk (below_step (zh1 HB.out GE216.out) hb); (try clear hb); (try clear hb2); (try clear hk); (try clear hi)))
     first
     | (have _ := S0_
        go_ret2
        exact ⟨ze, zh1 HB.out GE216.out⟩)
     | (have _ := S1_
        replace BK216 := Aside0.mk (blk_drew BK216.out)
        replace HB := Aside0.mk (below_drew1 HB.out)
        refine start_ (n := 11) (S := fun w' => w'.cell? ⟨gb216, 0, none⟩ = some (.int .i64 a0_0) ∧ w'.cell? ⟨gb216, 1, none⟩ = some (.int .i64 a0_1) ∧ w'.cell? ⟨gb216, 2, none⟩ = some (.int .i64 a0_2) ∧ w'.cell? ⟨gb216, 3, none⟩ = some (.int .i64 a0_3) ∧ w'.cell? ⟨gb216, 4, none⟩ = some (.slice A0_4 l0_4.length c0_4) ∧ w'.cell? ⟨gb216, 5, none⟩ = some (.int .i64 a0_5) ∧ w'.cell? ⟨gb216, 6, none⟩ = some (.int .i64 a0_6) ∧ w'.cell? ⟨gb216, 7, none⟩ = some (.slice A0_7 l0_7.length c0_7) ∧ w'.cell? ⟨gb216, 8, none⟩ = some (.int .i64 a0_8)) (ds := []) (mk_ 0 11) (by kernel_rfl) rfl rfl ⟨(blk_cell BK216.out 0).trans rfl, (blk_cell BK216.out 1).trans rfl, (blk_cell BK216.out 2).trans rfl, (blk_cell BK216.out 3).trans rfl, (blk_cell BK216.out 4).trans rfl, (blk_cell BK216.out 5).trans rfl, (blk_cell BK216.out 6).trans rfl, (blk_cell BK216.out 7).trans rfl, (blk_cell BK216.out 8).trans rfl⟩ (fun hHeld => ?_); refine with_tabW cards_Write.tab5 cards_Write.bits5 (fun HT_ HW_ => ?_)
        generalize wq10.drew = w23 at BK216 HB hHeld ⊢
        refine zp (i := 0) (N := some 15) (mk_ 1 11) HT_.out ?_
        refine take_ (i := 1) (N := some 16) (v := ?_) (a' := ?_) (mk_ 2 11) rfl rfl (take_ofW HT_.out HW_.out (by kernel_rfl)) (fun _ _ _ h => h) (Or.inl ⟨by rfl, ?_⟩) hHeld ?_ ?_
        rotate_left
        · rintro w' ⟨s0, s1, s2, s3, s4, s5, s6, s7, s8⟩
          go_simp
          with_reducible rfl
        rotate_left
        · simp only [Act.put, zi, zi0, zi1, i64_w, i32_w]
          rfl
        refine take_ (i := 3) (N := some 18) (v := ?_) (a' := ?_) #[true, true, false, true, false, false, false, false, false, false, false] rfl rfl (take_ofW HT_.out HW_.out (by kernel_rfl)) (fun _ _ _ h => h) (Or.inl ⟨by rfl, ?_⟩) hHeld ?_ ?_
        rotate_left
        · rintro w' ⟨s0, s1, s2, s3, s4, s5, s6, s7, s8⟩
          go_simp
          with_reducible rfl
        rotate_left
        · simp only [Act.put, zi, zi0, zi1, i64_w, i32_w]
          rfl
        refine one_ (i := 2) (N := some 17) (mk_ 4 11) rfl rfl (one_of HT_.out (by kernel_rfl)) (by decide) (fun K hK => ?_)
        refine zgo Try.func25 #[.int .i64 a0_0] ?_
        with_reducible refine (cards_moulds.calls a0_0 tq2 _ Aq2.out).mono ?_
        rintro e w24 ⟨v222, rfl, ho0, hb⟩
        refine ⟨_, rfl, ?_⟩
        have HO223 := Aside0.mk (Kd.R_lower ho0 (below_size (zh1 HB.out GE216.out)))
        replace BK216 := Aside0.mk (zB BK216.out hb)
        replace HB := Aside0.mk (below_step (zh1 HB.out GE216.out) hb)
        (try clear hb); (try clear hb2)
        (try clear hk); (try clear hi); (try clear ho0)
        refine hK.out _ _ ⟨(blk_cell BK216.out 0).trans rfl, (blk_cell BK216.out 1).trans rfl, (blk_cell BK216.out 2).trans rfl, (blk_cell BK216.out 3).trans rfl, (blk_cell BK216.out 4).trans rfl, (blk_cell BK216.out 5).trans rfl, (blk_cell BK216.out 6).trans rfl, (blk_cell BK216.out 7).trans rfl, (blk_cell BK216.out 8).trans rfl⟩ (fun hHeld => ?_)
        clear hK K
        refine zn (some 17) ?_
        refine one_ (i := 4) (N := some 19) (mk_ 5 11) rfl rfl (one_of HT_.out (by kernel_rfl)) (by decide) (fun K hK => ?_)
        refine zgo Try.func26 #[.agg #[.int .i64 a0_0, .int .i64 a0_1, .int .i64 a0_2, .int .i64 a0_3, .slice A0_4 l0_4.length c0_4, .int .i64 a0_5, .int .i64 a0_6, .slice A0_7 l0_7.length c0_7, .int .i64 a0_8]] ?_
        with_reducible refine (cards_values.calls k a0_0 a0_1 a0_2 a0_3 _ _ l0_4 a0_5 a0_6 _ _ l0_7 a0_8 tq3 _ ?side1 ?side2 ?side3 ?side4 Aq3.out).mono ?_
        (case side1 => exact zc (Kd.C_below HR0_4.out HB.out))
        (case side2 => exact HC0_4.out)
        (case side3 => exact zc (Kd.C_below HR0_7.out HB.out))
        (case side4 => exact HC0_7.out)
        rintro e w25 ⟨v225, rfl, ho0, hb⟩
        refine ⟨_, rfl, ?_⟩
        have HO226 := Aside0.mk (Kd.R_lower (Kd.R_new' ho0 (Kd.R_lt (zr HO223.out))) (below_size (zh1 HB.out GE216.out)))
        replace HO223 := Aside0.mk (Kd.R_elder' (zr HO223.out) (Kd.R_base ho0) hb)
        replace BK216 := Aside0.mk (zB BK216.out hb)
        replace HB := Aside0.mk (below_step (zh1 HB.out GE216.out) hb)
        (try clear hb); (try clear hb2)
        (try clear hk); (try clear hi); (try clear ho0)
        obtain ⟨Ao26, co26, eo26⟩ := Kd.R_slice HO223.out
        (first | subst eo26 | (injection eo26 with f1_ f2_ f3_; have f4_ := f1_.symm; have f5_ := f3_.symm; clear f1_ f2_ f3_; subst f4_; subst f5_))
        obtain ⟨Ao27, co27, eo27⟩ := Kd.R_slice HO226.out
        (first | subst eo27 | (injection eo27 with f1_ f2_ f3_; have f4_ := f1_.symm; have f5_ := f3_.symm; clear f1_ f2_ f3_; subst f4_; subst f5_))
        refine hK.out _ _ ⟨(blk_cell BK216.out 0).trans rfl, (blk_cell BK216.out 1).trans rfl, (blk_cell BK216.out 2).trans rfl, (blk_cell BK216.out 3).trans rfl, (blk_cell BK216.out 4).trans rfl, (blk_cell BK216.out 5).trans rfl, (blk_cell BK216.out 6).trans rfl, (blk_cell BK216.out 7).trans rfl, (blk_cell BK216.out 8).trans rfl⟩ (fun hHeld => ?_)
        clear hK K
        refine zn (some 19) ?_
        refine one_ (i := 5) (N := some 20) (mk_ 6 11) rfl rfl (one_of HT_.out (by kernel_rfl)) (by decide) (fun K hK => ?_)
        refine zgo Try.func24 #[.slice Ao26 tq2.length co26, .slice Ao27 tq3.length co27] ?_
        with_reducible refine (mould_Write.calls k _ _ tq2 _ _ tq3 t227 t228 _ ?side1 ?side2 ?side3 ?side4 A15.out).mono ?_
        (case side1 => exact zc ((Kd.R_reads' HO223.out).2.2))
        (case side2 => exact (Kd.R_reads' HO223.out).2.1)
        (case side3 => exact zc ((Kd.R_reads' HO226.out).2.2))
        (case side4 => exact (Kd.R_reads' HO226.out).2.1)
        rintro e w28 ⟨rfl, hb⟩
        refine ⟨_, rfl, ?_⟩
        replace HO223 := Aside0.mk (zR HO223.out hb)
        replace HO226 := Aside0.mk (zR HO226.out hb)
        replace BK216 := Aside0.mk (zB BK216.out hb)
        replace HB := Aside0.mk (below_step (zh1 HB.out GE216.out) hb)
        (try clear hb); (try clear hb2)
        (try clear hk); (try clear hi)
        refine hK.out _ _ ⟨(blk_cell BK216.out 0).trans rfl, (blk_cell BK216.out 1).trans rfl, (blk_cell BK216.out 2).trans rfl, (blk_cell BK216.out 3).trans rfl, (blk_cell BK216.out 4).trans rfl, (blk_cell BK216.out 5).trans rfl, (blk_cell BK216.out 6).trans rfl, (blk_cell BK216.out 7).trans rfl, (blk_cell BK216.out 8).trans rfl⟩ (fun hHeld => ?_)
        clear hK K
        refine zn (some 20) ?_
        refine zp (i := 6) (N := some 14) (mk_ 7 11) HT_.out ?_
        refine zp (i := 7) (N := some 21) (mk_ 8 11) HT_.out ?_
        refine zp (i := 8) (N := some 22) (mk_ 9 11) HT_.out ?_
        refine zp (i := 9) (N := some 4) (mk_ 10 11) HT_.out ?_
        refine zp (i := 10) (N := some 5) (mk_ 11 11) HT_.out ?_
        refine done_ (done_of HT_.out (by kernel_rfl)) ?_
        try go_wp2_with (first | ((with_reducible refine gate_callee (f := 23) rfl ?_); refine zgl (some 26) Try.func23 #[.string t227, .int .i64 32] ?_; (with_reducible refine (mould_Pad.calls k t227 32 t229 t230 _ A17.out).mono ?_); rintro e w29 ⟨rfl, hb⟩; refine ⟨_, rfl, ?_⟩; replace HO223 := Aside0.mk (zR HO223.out hb); replace HO226 := Aside0.mk (zR HO226.out hb); replace BK216 := Aside0.mk (zB BK216.out hb); replace HB := Aside0.mk (below_step (zh1 HB.out GE216.out) hb); (try clear hb); (try clear hb2); (try clear hk); (try clear hi)))
        go_ret2
        exact ⟨ze, zh1 HB.out GE216.out⟩)
     | (have _ := S2_
        replace BK216 := Aside0.mk (blk_drew BK216.out)
        replace HB := Aside0.mk (below_drew1 HB.out)
        refine start_ (n := 11) (S := fun w' => w'.cell? ⟨gb216, 0, none⟩ = some (.int .i64 a0_0) ∧ w'.cell? ⟨gb216, 1, none⟩ = some (.int .i64 a0_1) ∧ w'.cell? ⟨gb216, 2, none⟩ = some (.int .i64 a0_2) ∧ w'.cell? ⟨gb216, 3, none⟩ = some (.int .i64 a0_3) ∧ w'.cell? ⟨gb216, 4, none⟩ = some (.slice A0_4 l0_4.length c0_4) ∧ w'.cell? ⟨gb216, 5, none⟩ = some (.int .i64 a0_5) ∧ w'.cell? ⟨gb216, 6, none⟩ = some (.int .i64 a0_6) ∧ w'.cell? ⟨gb216, 7, none⟩ = some (.slice A0_7 l0_7.length c0_7) ∧ w'.cell? ⟨gb216, 8, none⟩ = some (.int .i64 a0_8)) (ds := []) (mk_ 0 11) (by kernel_rfl) rfl rfl ⟨(blk_cell BK216.out 0).trans rfl, (blk_cell BK216.out 1).trans rfl, (blk_cell BK216.out 2).trans rfl, (blk_cell BK216.out 3).trans rfl, (blk_cell BK216.out 4).trans rfl, (blk_cell BK216.out 5).trans rfl, (blk_cell BK216.out 6).trans rfl, (blk_cell BK216.out 7).trans rfl, (blk_cell BK216.out 8).trans rfl⟩ (fun hHeld => ?_); refine with_tabW cards_Write.tab5 cards_Write.bits5 (fun HT_ HW_ => ?_)
        generalize wq10.drew = w35 at BK216 HB hHeld ⊢
        refine zp (i := 0) (N := some 15) (mk_ 1 11) HT_.out ?_
        refine take_ (i := 1) (N := some 16) (v := ?_) (a' := ?_) (mk_ 2 11) rfl rfl (take_ofW HT_.out HW_.out (by kernel_rfl)) (fun _ _ _ h => h) (Or.inl ⟨by rfl, ?_⟩) hHeld ?_ ?_
        rotate_left
        · rintro w' ⟨s0, s1, s2, s3, s4, s5, s6, s7, s8⟩
          go_simp
          with_reducible rfl
        rotate_left
        · simp only [Act.put, zi, zi0, zi1, i64_w, i32_w]
          rfl
        refine take_ (i := 3) (N := some 18) (v := ?_) (a' := ?_) #[true, true, false, true, false, false, false, false, false, false, false] rfl rfl (take_ofW HT_.out HW_.out (by kernel_rfl)) (fun _ _ _ h => h) (Or.inl ⟨by rfl, ?_⟩) hHeld ?_ ?_
        rotate_left
        · rintro w' ⟨s0, s1, s2, s3, s4, s5, s6, s7, s8⟩
          go_simp
          with_reducible rfl
        rotate_left
        · simp only [Act.put, zi, zi0, zi1, i64_w, i32_w]
          rfl
        refine one_ (i := 2) (N := some 17) (mk_ 4 11) rfl rfl (one_of HT_.out (by kernel_rfl)) (by decide) (fun K hK => ?_)
        refine zgo Try.func25 #[.int .i64 a0_0] ?_
        with_reducible refine (cards_moulds.calls a0_0 tq2 _ Aq2.out).mono ?_
        rintro e w36 ⟨v222, rfl, ho0, hb⟩
        refine ⟨_, rfl, ?_⟩
        have HO223 := Aside0.mk (Kd.R_lower ho0 (below_size (zh1 HB.out GE216.out)))
        replace BK216 := Aside0.mk (zB BK216.out hb)
        replace HB := Aside0.mk (below_step (zh1 HB.out GE216.out) hb)
        (try clear hb); (try clear hb2)
        (try clear hk); (try clear hi); (try clear ho0)
        refine hK.out _ _ ⟨(blk_cell BK216.out 0).trans rfl, (blk_cell BK216.out 1).trans rfl, (blk_cell BK216.out 2).trans rfl, (blk_cell BK216.out 3).trans rfl, (blk_cell BK216.out 4).trans rfl, (blk_cell BK216.out 5).trans rfl, (blk_cell BK216.out 6).trans rfl, (blk_cell BK216.out 7).trans rfl, (blk_cell BK216.out 8).trans rfl⟩ (fun hHeld => ?_)
        clear hK K
        refine zn (some 17) ?_
        refine one_ (i := 4) (N := some 19) (mk_ 5 11) rfl rfl (one_of HT_.out (by kernel_rfl)) (by decide) (fun K hK => ?_)
        refine zgo Try.func26 #[.agg #[.int .i64 a0_0, .int .i64 a0_1, .int .i64 a0_2, .int .i64 a0_3, .slice A0_4 l0_4.length c0_4, .int .i64 a0_5, .int .i64 a0_6, .slice A0_7 l0_7.length c0_7, .int .i64 a0_8]] ?_
        with_reducible refine (cards_values.calls k a0_0 a0_1 a0_2 a0_3 _ _ l0_4 a0_5 a0_6 _ _ l0_7 a0_8 tq3 _ ?side1 ?side2 ?side3 ?side4 Aq3.out).mono ?_
        (case side1 => exact zc (Kd.C_below HR0_4.out HB.out))
        (case side2 => exact HC0_4.out)
        (case side3 => exact zc (Kd.C_below HR0_7.out HB.out))
        (case side4 => exact HC0_7.out)
        rintro e w37 ⟨v225, rfl, ho0, hb⟩
        refine ⟨_, rfl, ?_⟩
        have HO226 := Aside0.mk (Kd.R_lower (Kd.R_new' ho0 (Kd.R_lt (zr HO223.out))) (below_size (zh1 HB.out GE216.out)))
        replace HO223 := Aside0.mk (Kd.R_elder' (zr HO223.out) (Kd.R_base ho0) hb)
        replace BK216 := Aside0.mk (zB BK216.out hb)
        replace HB := Aside0.mk (below_step (zh1 HB.out GE216.out) hb)
        (try clear hb); (try clear hb2)
        (try clear hk); (try clear hi); (try clear ho0)
        obtain ⟨Ao38, co38, eo38⟩ := Kd.R_slice HO223.out
        (first | subst eo38 | (injection eo38 with f1_ f2_ f3_; have f4_ := f1_.symm; have f5_ := f3_.symm; clear f1_ f2_ f3_; subst f4_; subst f5_))
        obtain ⟨Ao39, co39, eo39⟩ := Kd.R_slice HO226.out
        (first | subst eo39 | (injection eo39 with f1_ f2_ f3_; have f4_ := f1_.symm; have f5_ := f3_.symm; clear f1_ f2_ f3_; subst f4_; subst f5_))
        refine hK.out _ _ ⟨(blk_cell BK216.out 0).trans rfl, (blk_cell BK216.out 1).trans rfl, (blk_cell BK216.out 2).trans rfl, (blk_cell BK216.out 3).trans rfl, (blk_cell BK216.out 4).trans rfl, (blk_cell BK216.out 5).trans rfl, (blk_cell BK216.out 6).trans rfl, (blk_cell BK216.out 7).trans rfl, (blk_cell BK216.out 8).trans rfl⟩ (fun hHeld => ?_)
        clear hK K
        refine zn (some 19) ?_
        refine one_ (i := 5) (N := some 20) (mk_ 6 11) rfl rfl (one_of HT_.out (by kernel_rfl)) (by decide) (fun K hK => ?_)
        refine zgo Try.func24 #[.slice Ao38 tq2.length co38, .slice Ao39 tq3.length co39] ?_
        with_reducible refine (mould_Write.calls k _ _ tq2 _ _ tq3 t227 t228 _ ?side1 ?side2 ?side3 ?side4 A15.out).mono ?_
        (case side1 => exact zc ((Kd.R_reads' HO223.out).2.2))
        (case side2 => exact (Kd.R_reads' HO223.out).2.1)
        (case side3 => exact zc ((Kd.R_reads' HO226.out).2.2))
        (case side4 => exact (Kd.R_reads' HO226.out).2.1)
        rintro e w40 ⟨rfl, hb⟩
        refine ⟨_, rfl, ?_⟩
        replace HO223 := Aside0.mk (zR HO223.out hb)
        replace HO226 := Aside0.mk (zR HO226.out hb)
        replace BK216 := Aside0.mk (zB BK216.out hb)
        replace HB := Aside0.mk (below_step (zh1 HB.out GE216.out) hb)
        (try clear hb); (try clear hb2)
        (try clear hk); (try clear hi)
        refine hK.out _ _ ⟨(blk_cell BK216.out 0).trans rfl, (blk_cell BK216.out 1).trans rfl, (blk_cell BK216.out 2).trans rfl, (blk_cell BK216.out 3).trans rfl, (blk_cell BK216.out 4).trans rfl, (blk_cell BK216.out 5).trans rfl, (blk_cell BK216.out 6).trans rfl, (blk_cell BK216.out 7).trans rfl, (blk_cell BK216.out 8).trans rfl⟩ (fun hHeld => ?_)
        clear hK K
        refine zn (some 20) ?_
        refine zp (i := 6) (N := some 14) (mk_ 7 11) HT_.out ?_
        refine zp (i := 7) (N := some 21) (mk_ 8 11) HT_.out ?_
        refine zp (i := 8) (N := some 22) (mk_ 9 11) HT_.out ?_
        refine zp (i := 9) (N := some 4) (mk_ 10 11) HT_.out ?_
        refine zp (i := 10) (N := some 5) (mk_ 11 11) HT_.out ?_
        refine done_ (done_of HT_.out (by kernel_rfl)) ?_
        try go_wp2
        go_ret2
        exact ⟨ze, zh1 HB.out GE216.out⟩)))

end Go.Proofs.Ytgigoogekimgkaa.GCrd
