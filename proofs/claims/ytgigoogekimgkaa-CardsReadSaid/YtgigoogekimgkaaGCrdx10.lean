/- printed for this claim by gprint.py, a program of this session, that drives the kit's printer. -/
import Derived.Test.YtgigoogekimgkaaGCrdx0
import Derived.Test.YtgigoogekimgkaaZ
import Derived.Test.YtgigoogekimgkaaGCrdx9
namespace Go.Proofs.Ytgigoogekimgkaa.GCrd
open Go.RowKit Go.Proofs.YtgigoogekimgkaaW.PrintWords Go.Proofs.YtgigoogekimgkaaW.PrintLast Go.Proofs.YtgigoogekimgkaaW.PrintMore
attribute [local go_sem] max2_int min2_int max_two min_two max_three min_three max_four min_four   -- for this text's walks alone
set_option linter.unusedVariables false
set_option linter.unusedSimpArgs false

/-! ### cards_card: function 36 -/
def cards_card1.f (l0 : List Int) : Option (Int × Int × Int × Int × List Int × Int × Int × (List (S48)) × Int) := if 0 < (l0.length : Int) then (if 1 < (l0.length : Int) then (if 2 < (l0.length : Int) then (if 3 < (l0.length : Int) then (if 4 ≤ (l0.length : Int) then (if (rd l0 0) = 1 then (if 4 ≤ ((l0.drop 4).length : Int) then ((sl_Cl.f ((l0.drop 4).take 4)).bind fun t250 => (if 4 < ((l0.drop 4).length : Int) then (if 5 < ((l0.drop 4).length : Int) then (some (rd l0 0, rd l0 1, rd l0 2, rd l0 3, t250, rd (l0.drop 4) 4, rd (l0.drop 4) 5, ([] : List (S48)), 0)) else (none)) else (none))) else (none)) else (none)) else (none)) else (none)) else (none)) else (none)) else (none)
def cards_card1.T1 : Bool × List (List Nat × List Nat) := (true, [([], []), ([0], [0]), ([1], [1]), ([], []), ([3], [3]), ([4], [4]), ([], []), ([6], [6]), ([7], [7]), ([], []), ([9], [9]), ([10], [10]), ([2, 5, 8, 11], [2, 5, 8, 11]), ([], []), ([13, 12, 0, 1, 2, 3, 4, 5, 6, 7, 8, 9, 10, 11, 12, 13], [12, 13])])
def cards_card1.B1 : List Nat := [0, 1, 3, 0, 8, 24, 0, 64, 192, 0, 512, 1536, 4095, 0, 16383]
theorem cards_card1.tab1 : rtab .any (opsOf Try.f36 1) = cards_card1.T1 := by kernel_rfl
theorem cards_card1.bits1 : waitsOk cards_card1.T1.2 cards_card1.B1 = true := by kernel_rfl
def cards_card1.T4 : Bool × List (List Nat × List Nat) := (true, [([], []), ([0], [0]), ([1], [1]), ([], []), ([3], [3]), ([4], [4]), ([], []), ([6], [6]), ([7], [7]), ([0, 1, 2], []), ([9, 2, 2, 0, 1, 2], [2, 9]), ([0, 1, 2, 3, 4, 5, 9, 10], []), ([11, 5, 10, 0, 1, 2, 3, 4, 5, 9, 10], [5, 11]), ([0, 1, 2, 3, 4, 5, 6, 7, 8, 9, 10, 11, 12], []), ([13, 8, 12, 0, 1, 2, 3, 4, 5, 6, 7, 8, 9, 10, 11, 12], [8, 13])])
def cards_card1.B4 : List Nat := [0, 1, 3, 0, 8, 24, 0, 64, 192, 7, 519, 1599, 3647, 8191, 16383]
theorem cards_card1.tab4 : rtab .any (opsOf Try.f36 4) = cards_card1.T4 := by kernel_rfl
theorem cards_card1.bits4 : waitsOk cards_card1.T4.2 cards_card1.B4 = true := by kernel_rfl
set_option maxHeartbeats 8000000 in
set_option maxRecDepth 100000 in
theorem cards_card1.calls (A0 : Option Addr) (c0 : Nat) (l0 : List Int) (r1 : Int) (r2 : Int) (r3 : Int) (r4 : Int) (r5 : List Int) (r6 : Int) (r7 : Int) (r8 : List (S48)) (r9 : Int) (w : World) (hr0 : Kd.C (Kd.int .i64) w A0 l0.length l0) (hc0 : l0.length ≤ c0) (h : cards_card1.f l0 = some (r1, r2, r3, r4, r5, r6, r7, r8, r9)) :
 Calls Try.prog 36 #[.slice A0 l0.length c0] w fun e w' => ∃ v4_ v7_ : Value, e = .returned (.agg #[.int .i64 r1, .int .i64 r2, .int .i64 r3, .int .i64 r4, v4_, .int .i64 r6, .int .i64 r7, v7_, .int .i64 r9]) ∧ Kd.R (Kd.int .i64) 3 w' w.heap.size (fun _ => True) v4_ r5 ∧ Kd.R k48 48 w' w.heap.size (fun _ => True) v7_ r8 ∧ Below w.heap.size w w' := by
 have hu25 := Try.underlying25
 have hu48 := Try.underlying48
 have HR0 := Aside0.mk hr0
 have HC0 := Aside0.mk hc0
 clear hr0 hc0
 have HB := Aside0.mk (Below.refl w.heap.size w)
 have H : (if 0 < (l0.length : Int) then (if 1 < (l0.length : Int) then (if 2 < (l0.length : Int) then (if 3 < (l0.length : Int) then (if 4 ≤ (l0.length : Int) then (if (rd l0 0) = 1 then (if 4 ≤ ((l0.drop 4).length : Int) then ((sl_Cl.f ((l0.drop 4).take 4)).bind fun t250 => (if 4 < ((l0.drop 4).length : Int) then (if 5 < ((l0.drop 4).length : Int) then (some (rd l0 0, rd l0 1, rd l0 2, rd l0 3, t250, rd (l0.drop 4) 4, rd (l0.drop 4) 5, ([] : List (S48)), 0)) else (none)) else (none))) else (none)) else (none)) else (none)) else (none)) else (none)) else (none)) else (none)) = some (r1, r2, r3, r4, r5, r6, r7, r8, r9) := h
 clear h
 by_cases c2 : 0 < (l0.length : Int)
 · rw [if_pos c2] at H
   have c2b0 : decide (0 < (l0.length : Int)) = true := decide_eq_true c2
   have c2b1 : decide (0 < l0.length) = true := decide_eq_true (by omega)
   clear c2
   by_cases c3 : 1 < (l0.length : Int)
   · rw [if_pos c3] at H
     have c3b0 : decide (1 < (l0.length : Int)) = true := decide_eq_true c3
     have c3b1 : decide (1 < l0.length) = true := decide_eq_true (by omega)
     clear c3
     by_cases c4 : 2 < (l0.length : Int)
     · rw [if_pos c4] at H
       have c4b0 : decide (2 < (l0.length : Int)) = true := decide_eq_true c4
       have c4b1 : decide (2 < l0.length) = true := decide_eq_true (by omega)
       clear c4
       by_cases c5 : 3 < (l0.length : Int)
       · rw [if_pos c5] at H
         have c5b0 : decide (3 < (l0.length : Int)) = true := decide_eq_true c5
         have c5b1 : decide (3 < l0.length) = true := decide_eq_true (by omega)
         clear c5
         by_cases c6 : 4 ≤ (l0.length : Int)
         · rw [if_pos c6] at H
           have c6b0 := eq_true c6
           have c6b1 : decide (4 ≤ (l0.length : Int)) = true := decide_eq_true c6
           clear c6
           by_cases c7 : (rd l0 0) = 1
           · rw [if_pos c7] at H
             have c7b0 : ((rd l0 0) == 1) = true := beq_iff_eq.mpr c7
             have c7b1 : ((rd l0 0) != 1) = false := bne_eq_false_iff_eq.mpr c7
             clear c7
             by_cases c8 : 4 ≤ ((l0.drop 4).length : Int)
             · rw [if_pos c8] at H
               have c8b0 := eq_true c8
               have c8b1 : decide (4 ≤ ((l0.drop 4).length : Int)) = true := decide_eq_true c8
               clear c8
               replace H := Option.bind_eq_some_iff.mp H
               obtain ⟨t250, A90, H⟩ := H
               replace H : (if 4 < ((l0.drop 4).length : Int) then (if 5 < ((l0.drop 4).length : Int) then (some (rd l0 0, rd l0 1, rd l0 2, rd l0 3, t250, rd (l0.drop 4) 4, rd (l0.drop 4) 5, ([] : List (S48)), 0)) else (none)) else (none)) = some (r1, r2, r3, r4, r5, r6, r7, r8, r9) := H
               have A9 := Aside0.mk A90
               clear A90
               by_cases c10 : 4 < ((l0.drop 4).length : Int)
               · rw [if_pos c10] at H
                 have c10b0 : decide (4 < ((l0.drop 4).length : Int)) = true := decide_eq_true c10
                 have c10b1 : decide (4 < (l0.drop 4).length) = true := decide_eq_true (by omega)
                 clear c10
                 by_cases c11 : 5 < ((l0.drop 4).length : Int)
                 · rw [if_pos c11] at H
                   have c11b0 : decide (5 < ((l0.drop 4).length : Int)) = true := decide_eq_true c11
                   have c11b1 : decide (5 < (l0.drop 4).length) = true := decide_eq_true (by omega)
                   clear c11
                   simp only [Option.some.injEq, Prod.mk.injEq] at H
                   obtain ⟨rfl, rfl, rfl, rfl, rfl, rfl, rfl, rfl, rfl⟩ := H
                   go_enter Try.func36, Try.ntmps36
                   try go_wp2_with (first | ((with_reducible refine gate_dst (N := 2) rfl ?_); refine zbx (N := 2) (cs := #[.int .i64 0, .int .i64 0, .int .i64 0, .int .i64 0, .slice none 0 0, .int .i64 0, .int .i64 0, .slice none 0 0, .int .i64 0]) (t := 25) ?_; intro gb242 hg w12 hbox hb; have BK242 := Aside0.mk (hbox); have GW242 := Aside0.mk ((by rw [hg]; exact (below_size (zh0 HB.out)) : w.heap.size ≤ gb242)); have GE242 := GW242; replace HB := Aside0.mk (below_step (zh0 HB.out) hb); clear hb hbox hg))
                   replace BK242 := Aside0.mk (blk_drew BK242.out)
                   replace HB := Aside0.mk (below_drew1 HB.out)
                   have p243 : 0 ≤ (0 : Int) := (by omega)
                   have q243 : 0 < (l0.length : Int) := zd
                   obtain ⟨ad243, e243, hx243_0⟩ := Kd.at_int HR0.out 0 p243 q243
                   have hw243_0 := hx243_0
                   (try rw [show ((0 : Int)).toNat = 0 from rfl] at hw243_0)
                   (try rw [show 0 * 1 = 0 from rfl] at hw243_0)
                   (try rw [Addr.add_zero'] at hw243_0)
                   cases e243
                   have qi243 : (0 < l0.length) = True := eq_true (by omega)
                   (try rw [show ((0 : Int)).toNat = 0 from rfl] at hx243_0)
                   (try rw [Addr.add_zero'] at hx243_0)
                   replace hx243_0 := pw_cell_below HB.out hx243_0
                   replace p243 := eq_true p243
                   replace q243 := eq_true q243
                   have p244 : 0 ≤ (1 : Int) := (by omega)
                   have q244 : 1 < (l0.length : Int) := zd
                   obtain ⟨ad244, e244, hx244_0⟩ := Kd.at_int HR0.out 1 p244 q244
                   have hw244_0 := hx244_0
                   (try rw [show ((1 : Int)).toNat = 1 from rfl] at hw244_0)
                   (try rw [show 1 * 1 = 1 from rfl] at hw244_0)
                   (try simp only [Nat.reduceMul, Nat.reduceEqDiff, Go.Addr.add, ↓reduceIte] at hw244_0)
                   obtain rfl : ad243 = ad244 := (by injection e244)
                   (try simp only [show (1 : Int).toNat = 1 from rfl, Nat.reduceMul, Nat.reduceEqDiff, Go.Addr.add, ↓reduceIte] at hx244_0)
                   have qi244 : (1 < l0.length) = True := eq_true (by omega)
                   (try rw [show ((1 : Int)).toNat = 1 from rfl] at hx244_0)
                   replace hx244_0 := pw_cell_below HB.out hx244_0
                   replace p244 := eq_true p244
                   replace q244 := eq_true q244
                   have p245 : 0 ≤ (2 : Int) := (by omega)
                   have q245 : 2 < (l0.length : Int) := zd
                   obtain ⟨ad245, e245, hx245_0⟩ := Kd.at_int HR0.out 2 p245 q245
                   have hw245_0 := hx245_0
                   (try rw [show ((2 : Int)).toNat = 2 from rfl] at hw245_0)
                   (try rw [show 2 * 1 = 2 from rfl] at hw245_0)
                   (try simp only [Nat.reduceMul, Nat.reduceEqDiff, Go.Addr.add, ↓reduceIte] at hw245_0)
                   obtain rfl : ad243 = ad245 := (by injection e245)
                   (try simp only [show (2 : Int).toNat = 2 from rfl, Nat.reduceMul, Nat.reduceEqDiff, Go.Addr.add, ↓reduceIte] at hx245_0)
                   have qi245 : (2 < l0.length) = True := eq_true (by omega)
                   (try rw [show ((2 : Int)).toNat = 2 from rfl] at hx245_0)
                   replace hx245_0 := pw_cell_below HB.out hx245_0
                   replace p245 := eq_true p245
                   replace q245 := eq_true q245
                   have p246 : 0 ≤ (3 : Int) := (by omega)
                   have q246 : 3 < (l0.length : Int) := zd
                   obtain ⟨ad246, e246, hx246_0⟩ := Kd.at_int HR0.out 3 p246 q246
                   have hw246_0 := hx246_0
                   (try rw [show ((3 : Int)).toNat = 3 from rfl] at hw246_0)
                   (try rw [show 3 * 1 = 3 from rfl] at hw246_0)
                   (try simp only [Nat.reduceMul, Nat.reduceEqDiff, Go.Addr.add, ↓reduceIte] at hw246_0)
                   obtain rfl : ad243 = ad246 := (by injection e246)
                   (try simp only [show (3 : Int).toNat = 3 from rfl, Nat.reduceMul, Nat.reduceEqDiff, Go.Addr.add, ↓reduceIte] at hx246_0)
                   have qi246 : (3 < l0.length) = True := eq_true (by omega)
                   (try rw [show ((3 : Int)).toNat = 3 from rfl] at hx246_0)
                   replace hx246_0 := pw_cell_below HB.out hx246_0
                   replace p246 := eq_true p246
                   replace q246 := eq_true q246
                   refine start_ (n := 15) (S := fun w' => w'.cell? ad243 = some (.int .i64 (rd l0 0)) ∧ w'.cell? ⟨ad243.block, ad243.off + 1, none⟩ = some (.int .i64 (rd l0 1)) ∧ w'.cell? ⟨ad243.block, ad243.off + 2, none⟩ = some (.int .i64 (rd l0 2)) ∧ w'.cell? ⟨ad243.block, ad243.off + 3, none⟩ = some (.int .i64 (rd l0 3))) (ds := []) (mk_ 0 15) (by kernel_rfl) rfl rfl ⟨(pw_cell_below HB.out hw243_0), (pw_cell_below HB.out hw244_0), (pw_cell_below HB.out hw245_0), (pw_cell_below HB.out hw246_0)⟩ (fun hHeld => ?_); refine with_tabW cards_card1.tab1 cards_card1.bits1 (fun HT_ HW_ => ?_)
                   generalize w12.drew = w13 at BK242 HB hx243_0 hx244_0 hx245_0 hx246_0 hHeld ⊢
                   refine zp (i := 0) (N := some 6) (mk_ 1 15) HT_.out ?_
                   refine zp (i := 1) (N := some 7) (mk_ 2 15) HT_.out ?_
                   refine zp (i := 3) (N := some 9) #[true, true, false, true, false, false, false, false, false, false, false, false, false, false, false] HT_.out ?_
                   refine zp (i := 4) (N := some 10) #[true, true, false, true, true, false, false, false, false, false, false, false, false, false, false] HT_.out ?_
                   refine zp (i := 6) (N := some 12) #[true, true, false, true, true, false, true, false, false, false, false, false, false, false, false] HT_.out ?_
                   refine zp (i := 7) (N := some 13) #[true, true, false, true, true, false, true, true, false, false, false, false, false, false, false] HT_.out ?_
                   refine zp (i := 9) (N := some 15) #[true, true, false, true, true, false, true, true, false, true, false, false, false, false, false] HT_.out ?_
                   refine zp (i := 10) (N := some 16) #[true, true, false, true, true, false, true, true, false, true, true, false, false, false, false] HT_.out ?_
                   refine take_ (i := 2) (N := some 8) (v := ?_) (a' := ?_) #[true, true, true, true, true, false, true, true, false, true, true, false, false, false, false] rfl rfl (take_ofW HT_.out HW_.out (by kernel_rfl)) (fun _ _ _ h => h) (Or.inl ⟨by rfl, ?_⟩) hHeld ?_ ?_
                   rotate_left
                   · rintro w' ⟨s0, s1, s2, s3⟩
                     go_simp
                     with_reducible rfl
                   rotate_left
                   · simp only [Act.put, zi, zi0, zi1, i64_w, i32_w]
                     rfl
                   refine take_ (i := 5) (N := some 11) (v := ?_) (a' := ?_) #[true, true, true, true, true, true, true, true, false, true, true, false, false, false, false] rfl rfl (take_ofW HT_.out HW_.out (by kernel_rfl)) (fun _ _ _ h => h) (Or.inl ⟨by rfl, ?_⟩) hHeld ?_ ?_
                   rotate_left
                   · rintro w' ⟨s0, s1, s2, s3⟩
                     go_simp
                     with_reducible rfl
                   rotate_left
                   · simp only [Act.put, zi, zi0, zi1, i64_w, i32_w]
                     rfl
                   refine take_ (i := 8) (N := some 14) (v := ?_) (a' := ?_) (mk_ 11 15) rfl rfl (take_ofW HT_.out HW_.out (by kernel_rfl)) (fun _ _ _ h => h) (Or.inl ⟨by rfl, ?_⟩) hHeld ?_ ?_
                   rotate_left
                   · rintro w' ⟨s0, s1, s2, s3⟩
                     go_simp
                     with_reducible rfl
                   rotate_left
                   · simp only [Act.put, zi, zi0, zi1, i64_w, i32_w]
                     rfl
                   refine take_ (i := 11) (N := some 17) (v := ?_) (a' := ?_) (mk_ 12 15) rfl rfl (take_ofW HT_.out HW_.out (by kernel_rfl)) (fun _ _ _ h => h) (Or.inl ⟨by rfl, ?_⟩) hHeld ?_ ?_
                   rotate_left
                   · rintro w' ⟨s0, s1, s2, s3⟩
                     go_simp
                     with_reducible rfl
                   rotate_left
                   · simp only [Act.put, zi, zi0, zi1, i64_w, i32_w]
                     rfl
                   refine zp (i := 12) (N := some 18) (mk_ 13 15) HT_.out ?_
                   refine one_ (i := 13) (N := some 3) (mk_ 14 15) rfl rfl (one_of HT_.out (by kernel_rfl)) (by decide) (fun K hK => ?_)
                   refine box_step ?hg (N := 3) ?hd (cs := #[.int .i64 0, .int .i64 0, .int .i64 0, .int .i64 0, .slice none 0 0, .int .i64 0, .int .i64 0, .slice none 0 0, .int .i64 0]) (t := 25) ?hr ?_; (case hd => rfl); (case hg => rfl); (case hr => first | (go_simp; done) | (go_simp; rfl))
                   intro gb247 hg w14 hbox hb
                   have BK247 := Aside0.mk (hbox)
                   have GW247 := Aside0.mk ((by rw [hg]; exact (below_size (zh1 HB.out GE242.out)) : w.heap.size ≤ gb247))
                   have GE247 := GW247
                   replace HB := Aside0.mk (below_step (zh1 HB.out GE242.out) hb)
                   have NB242_247 := Aside0.mk ((by rw [hg]; exact Nat.ne_of_lt (blk_lt (g := gb242) (o := .cells #[.int .i64 0, .int .i64 0, .int .i64 0, .int .i64 0, .slice none 0 0, .int .i64 0, .int .i64 0, .slice none 0 0, .int .i64 0] 25 (0, 0)) (zb BK242.out)) : gb242 ≠ gb247))
                   have NB247_242 := Aside0.mk ((by rw [hg]; exact Nat.ne_of_gt (blk_lt (g := gb242) (o := .cells #[.int .i64 0, .int .i64 0, .int .i64 0, .int .i64 0, .slice none 0 0, .int .i64 0, .int .i64 0, .slice none 0 0, .int .i64 0] 25 (0, 0)) (zb BK242.out)) : gb247 ≠ gb242))
                   replace BK242 := Aside0.mk (zB BK242.out hb)
                   clear hb hbox hg
                   refine hK.out _ _ ⟨(pw_cell_below HB.out hw243_0), (pw_cell_below HB.out hw244_0), (pw_cell_below HB.out hw245_0), (pw_cell_below HB.out hw246_0)⟩ (fun hHeld => ?_)
                   clear hK K
                   refine zn (some 3) ?_
                   refine one_ (i := 14) (N := none) (mk_ 15 15) rfl rfl (one_of HT_.out (by kernel_rfl)) (by decide) (fun K hK => ?_)
                   have hs15 : w14.cell? ⟨gb247, 0, none⟩ = some (.int .i64 0) := (blk_cell BK247.out 0).trans rfl
                   have hfs15 := blk_frozen BK247.out 0
                   have hns15_0 := NB242_247.out
                   have hms15_0 := NB247_242.out
                   have hs16 : w14.cell? ⟨gb247, 1, none⟩ = some (.int .i64 0) := (blk_cell BK247.out 1).trans rfl
                   have hfs16 := blk_frozen BK247.out 1
                   have hns16_0 := NB242_247.out
                   have hms16_0 := NB247_242.out
                   have hs17 : w14.cell? ⟨gb247, 2, none⟩ = some (.int .i64 0) := (blk_cell BK247.out 2).trans rfl
                   have hfs17 := blk_frozen BK247.out 2
                   have hns17_0 := NB242_247.out
                   have hms17_0 := NB247_242.out
                   have hs18 : w14.cell? ⟨gb247, 3, none⟩ = some (.int .i64 0) := (blk_cell BK247.out 3).trans rfl
                   have hfs18 := blk_frozen BK247.out 3
                   have hns18_0 := NB242_247.out
                   have hms18_0 := NB247_242.out
                   have hs19 : w14.cell? ⟨gb247, 4, none⟩ = some (.slice none 0 0) := (blk_cell BK247.out 4).trans rfl
                   have hfs19 := blk_frozen BK247.out 4
                   have hns19_0 := NB242_247.out
                   have hms19_0 := NB247_242.out
                   have hs20 : w14.cell? ⟨gb247, 5, none⟩ = some (.int .i64 0) := (blk_cell BK247.out 5).trans rfl
                   have hfs20 := blk_frozen BK247.out 5
                   have hns20_0 := NB242_247.out
                   have hms20_0 := NB247_242.out
                   have hs21 : w14.cell? ⟨gb247, 6, none⟩ = some (.int .i64 0) := (blk_cell BK247.out 6).trans rfl
                   have hfs21 := blk_frozen BK247.out 6
                   have hns21_0 := NB242_247.out
                   have hms21_0 := NB247_242.out
                   have hs22 : w14.cell? ⟨gb247, 7, none⟩ = some (.slice none 0 0) := (blk_cell BK247.out 7).trans rfl
                   have hfs22 := blk_frozen BK247.out 7
                   have hns22_0 := NB242_247.out
                   have hms22_0 := NB247_242.out
                   have hs23 : w14.cell? ⟨gb247, 8, none⟩ = some (.int .i64 0) := (blk_cell BK247.out 8).trans rfl
                   have hfs23 := blk_frozen BK247.out 8
                   have hns23_0 := NB242_247.out
                   have hms23_0 := NB247_242.out
                   refine skip_ (w1 := ?_) (by rfl) rfl ?_ ?_
                   rotate_left
                   · go_simp
                     rfl
                   refine hK.out _ _ ⟨((zf hw243_0 GW247.out).trans (((zf hw243_0 GW247.out).trans (((zf hw243_0 GW247.out).trans (((zf hw243_0 GW247.out).trans (((zf hw243_0 GW247.out).trans (((zf hw243_0 GW247.out).trans (((zf hw243_0 GW247.out).trans (((zf hw243_0 GW247.out).trans (((zf hw243_0 GW247.out).trans (hHeld.1)))))))))))))))))), ((zf hw244_0 GW247.out).trans (((zf hw244_0 GW247.out).trans (((zf hw244_0 GW247.out).trans (((zf hw244_0 GW247.out).trans (((zf hw244_0 GW247.out).trans (((zf hw244_0 GW247.out).trans (((zf hw244_0 GW247.out).trans (((zf hw244_0 GW247.out).trans (((zf hw244_0 GW247.out).trans (hHeld.2.1)))))))))))))))))), ((zf hw245_0 GW247.out).trans (((zf hw245_0 GW247.out).trans (((zf hw245_0 GW247.out).trans (((zf hw245_0 GW247.out).trans (((zf hw245_0 GW247.out).trans (((zf hw245_0 GW247.out).trans (((zf hw245_0 GW247.out).trans (((zf hw245_0 GW247.out).trans (((zf hw245_0 GW247.out).trans (hHeld.2.2.1)))))))))))))))))), ((zf hw246_0 GW247.out).trans (((zf hw246_0 GW247.out).trans (((zf hw246_0 GW247.out).trans (((zf hw246_0 GW247.out).trans (((zf hw246_0 GW247.out).trans (((zf hw246_0 GW247.out).trans (((zf hw246_0 GW247.out).trans (((zf hw246_0 GW247.out).trans (((zf hw246_0 GW247.out).trans (hHeld.2.2.2))))))))))))))))))⟩ (fun hHeld => ?_)
                   clear hK K
                   refine done_ (done_of HT_.out (by kernel_rfl)) ?_
                   obtain ⟨i024, hi024, _, hsz24, _⟩ := info_parts info3
                   obtain ⟨A24, hcut24, hA24, hC24⟩ := print_drop_of (P := Try.prog) (Value.int .i64) 0 22 3 .i64 Try.underlying22 hi024 hsz24 (some ad243) c0 l0 4 (by omega) (zd) HC0.out
                   have HR248 := Aside0.mk (Kd.C_of_reads (h1 := fun _ => rfl) (hA24 _ (Kd.reads_of_C HR0.out)))
                   have HC248 := Aside0.mk hC24
                   clear hA24 hC24 hi024 hsz24
                   have hnb25 := NB247_242.out
                   have hnc25 := NB242_247.out
                   obtain ⟨hcz26_0, hcz26_1, hcz26_2, hcz26_3, hcz26_4, hcz26_5, hcz26_6, hcz26_7, hcz26_8⟩ := cells9 BK247.out
                   obtain ⟨hfz26_0, hfz26_1, hfz26_2, hfz26_3, hfz26_4, hfz26_5, hfz26_6, hfz26_7, hfz26_8⟩ := frozen9 BK247.out
                   try go_wp2
                   have n0_ : Aside0 ((((((((((w14.setCell ⟨gb247, 0, none⟩ (.int .i64 (rd l0 0))).setCell ⟨gb247, 1, none⟩ (.int .i64 (rd l0 1))).setCell ⟨gb247, 2, none⟩ (.int .i64 (rd l0 2))).setCell ⟨gb247, 3, none⟩ (.int .i64 (rd l0 3))).setCell ⟨gb247, 4, none⟩ (.slice none 0 0)).setCell ⟨gb247, 5, none⟩ (.int .i64 0)).setCell ⟨gb247, 6, none⟩ (.int .i64 0)).setCell ⟨gb247, 7, none⟩ (.slice none 0 0)).setCell ⟨gb247, 8, none⟩ (.int .i64 0)).heap[gb242]? = some (.cells #[.int .i64 0, .int .i64 0, .int .i64 0, .int .i64 0, .slice none 0 0, .int .i64 0, .int .i64 0, .slice none 0 0, .int .i64 0] 25 (0, 0))) := ⟨by (with_reducible repeat (first | refine blk_drewN ?_ _ | refine blk_drew ?_ | refine blk_alloc ?_ _)); refine far9 ?_ NB242_247.out; (with_reducible repeat (first | refine blk_drewN ?_ _ | refine blk_drew ?_ | refine blk_alloc ?_ _)); exact BK242.out⟩
                   have n1_ : Aside0 ((((((((((w14.setCell ⟨gb247, 0, none⟩ (.int .i64 (rd l0 0))).setCell ⟨gb247, 1, none⟩ (.int .i64 (rd l0 1))).setCell ⟨gb247, 2, none⟩ (.int .i64 (rd l0 2))).setCell ⟨gb247, 3, none⟩ (.int .i64 (rd l0 3))).setCell ⟨gb247, 4, none⟩ (.slice none 0 0)).setCell ⟨gb247, 5, none⟩ (.int .i64 0)).setCell ⟨gb247, 6, none⟩ (.int .i64 0)).setCell ⟨gb247, 7, none⟩ (.slice none 0 0)).setCell ⟨gb247, 8, none⟩ (.int .i64 0)).heap[gb247]? = some (.cells #[.int .i64 (rd l0 0), .int .i64 (rd l0 1), .int .i64 (rd l0 2), .int .i64 (rd l0 3), .slice none 0 0, .int .i64 0, .int .i64 0, .slice none 0 0, .int .i64 0] 25 (0, 0))) := ⟨by (with_reducible repeat (first | refine blk_drewN ?_ _ | refine blk_drew ?_ | refine blk_alloc ?_ _)); refine put9 (cs := #[.int .i64 0, .int .i64 0, .int .i64 0, .int .i64 0, .slice none 0 0, .int .i64 0, .int .i64 0, .slice none 0 0, .int .i64 0]) ?_ rfl; (with_reducible repeat (first | refine blk_drewN ?_ _ | refine blk_drew ?_ | refine blk_alloc ?_ _)); exact BK247.out⟩
                   have n2_ : Aside0 (Below w.heap.size w (((((((((w14.setCell ⟨gb247, 0, none⟩ (.int .i64 (rd l0 0))).setCell ⟨gb247, 1, none⟩ (.int .i64 (rd l0 1))).setCell ⟨gb247, 2, none⟩ (.int .i64 (rd l0 2))).setCell ⟨gb247, 3, none⟩ (.int .i64 (rd l0 3))).setCell ⟨gb247, 4, none⟩ (.slice none 0 0)).setCell ⟨gb247, 5, none⟩ (.int .i64 0)).setCell ⟨gb247, 6, none⟩ (.int .i64 0)).setCell ⟨gb247, 7, none⟩ (.slice none 0 0)).setCell ⟨gb247, 8, none⟩ (.int .i64 0))) := ⟨zh2 HB.out GE242.out GE247.out⟩
                   (try clear BK242); (try clear BK247); (try clear HB)
                   generalize (((((((((w14.setCell ⟨gb247, 0, none⟩ (.int .i64 (rd l0 0))).setCell ⟨gb247, 1, none⟩ (.int .i64 (rd l0 1))).setCell ⟨gb247, 2, none⟩ (.int .i64 (rd l0 2))).setCell ⟨gb247, 3, none⟩ (.int .i64 (rd l0 3))).setCell ⟨gb247, 4, none⟩ (.slice none 0 0)).setCell ⟨gb247, 5, none⟩ (.int .i64 0)).setCell ⟨gb247, 6, none⟩ (.int .i64 0)).setCell ⟨gb247, 7, none⟩ (.slice none 0 0)).setCell ⟨gb247, 8, none⟩ (.int .i64 0)) = w27 at n0_ n1_ n2_ ⊢
                   have BK242 := n0_
                   have BK247 := n1_
                   have HB := n2_
                   clear n0_ n1_ n2_
                   replace BK242 := Aside0.mk (blk_drew BK242.out)
                   replace BK247 := Aside0.mk (blk_drew BK247.out)
                   replace HB := Aside0.mk (below_drew1 HB.out)
                   obtain ⟨i029, hi029, _, hsz29, _⟩ := info_parts info3
                   obtain ⟨hcut29, hA29, hC29⟩ := print_take_of (P := Try.prog) (Value.int .i64) 0 22 3 .i64 Try.underlying22 hi029 hsz29 A24 (c0 - 4) (l0.drop 4) 4 (by omega) (zd) HC248.out
                   have HR249 := Aside0.mk (Kd.C_of_reads (h1 := fun _ => rfl) (hA29 _ (Kd.reads_of_C HR248.out)))
                   have HC249 := Aside0.mk hC29
                   clear hA29 hC29 hi029 hsz29
                   have p253 : 0 ≤ (4 : Int) := (by omega)
                   have q253 : 4 < ((l0.drop 4).length : Int) := zd
                   obtain ⟨ad253, e253, hx253_0⟩ := Kd.at_int HR248.out 4 p253 q253
                   have hw253_0 := hx253_0
                   (try rw [show ((4 : Int)).toNat = 4 from rfl] at hw253_0)
                   (try rw [show 4 * 1 = 4 from rfl] at hw253_0)
                   (try simp only [Nat.reduceMul, Nat.reduceEqDiff, Go.Addr.add, ↓reduceIte] at hw253_0)
                   cases e253
                   (try simp only [show (4 : Int).toNat = 4 from rfl, Nat.reduceMul, Nat.reduceEqDiff, Go.Addr.add, ↓reduceIte] at hx253_0)
                   have qi253 : (4 < (l0.drop 4).length) = True := eq_true (by omega)
                   (try rw [show ((4 : Int)).toNat = 4 from rfl] at hx253_0)
                   replace hx253_0 := pw_cell_below HB.out hx253_0
                   replace p253 := eq_true p253
                   replace q253 := eq_true q253
                   have p254 : 0 ≤ (5 : Int) := (by omega)
                   have q254 : 5 < ((l0.drop 4).length : Int) := zd
                   obtain ⟨ad254, e254, hx254_0⟩ := Kd.at_int HR248.out 5 p254 q254
                   have hw254_0 := hx254_0
                   (try rw [show ((5 : Int)).toNat = 5 from rfl] at hw254_0)
                   (try rw [show 5 * 1 = 5 from rfl] at hw254_0)
                   (try simp only [Nat.reduceMul, Nat.reduceEqDiff, Go.Addr.add, ↓reduceIte] at hw254_0)
                   obtain rfl : ad253 = ad254 := (by injection e254)
                   (try simp only [show (5 : Int).toNat = 5 from rfl, Nat.reduceMul, Nat.reduceEqDiff, Go.Addr.add, ↓reduceIte] at hx254_0)
                   have qi254 : (5 < (l0.drop 4).length) = True := eq_true (by omega)
                   (try rw [show ((5 : Int)).toNat = 5 from rfl] at hx254_0)
                   replace hx254_0 := pw_cell_below HB.out hx254_0
                   replace p254 := eq_true p254
                   replace q254 := eq_true q254
                   have hzA_ : 5 < (l0.drop 4).length := of_eq_true (by assumption)
                   rw [List.length_drop] at hzA_
                   have hzB_ : l0.length ≤ c0 := HC0.out
                   have hzC_ : (4 ≤ ((c0 - 4 : Nat) : Int)) = True := eq_true (by omega)
                   have hzD_ : (4 < ((l0.length - 4 : Nat) : Int)) = True := eq_true (by omega)
                   have hzE_ : (5 < ((l0.length - 4 : Nat) : Int)) = True := eq_true (by omega)
                   refine start_ (n := 15) (S := fun w' => w'.cell? ⟨ad253.block, ad253.off + 4, none⟩ = some (.int .i64 (rd (l0.drop 4) 4)) ∧ w'.cell? ⟨ad253.block, ad253.off + 5, none⟩ = some (.int .i64 (rd (l0.drop 4) 5))) (ds := []) (mk_ 0 15) (by kernel_rfl) rfl rfl ⟨(pw_cell_below HB.out hw253_0), (pw_cell_below HB.out hw254_0)⟩ (fun hHeld => ?_); refine with_tabW cards_card1.tab4 cards_card1.bits4 (fun HT_ HW_ => ?_)
                   generalize w27.drew = w28 at BK242 BK247 HB HR249 hx253_0 hx254_0 hHeld ⊢
                   refine zp (i := 0) (N := some 24) (mk_ 1 15) HT_.out ?_
                   refine zp (i := 1) (N := some 25) (mk_ 2 15) HT_.out ?_
                   refine zp (i := 3) (N := some 27) #[true, true, false, true, false, false, false, false, false, false, false, false, false, false, false] HT_.out ?_
                   refine zp (i := 4) (N := some 28) #[true, true, false, true, true, false, false, false, false, false, false, false, false, false, false] HT_.out ?_
                   refine zp (i := 6) (N := some 30) #[true, true, false, true, true, false, true, false, false, false, false, false, false, false, false] HT_.out ?_
                   refine zp (i := 7) (N := some 31) #[true, true, false, true, true, false, true, true, false, false, false, false, false, false, false] HT_.out ?_
                   refine take_ (i := 5) (N := some 29) (v := ?_) (a' := ?_) #[true, true, false, true, true, true, true, true, false, false, false, false, false, false, false] rfl rfl (take_ofW HT_.out HW_.out (by kernel_rfl)) (fun _ _ _ h => h) (Or.inl ⟨by rfl, ?_⟩) hHeld ?_ ?_
                   rotate_left
                   · rintro w' ⟨s0, s1⟩
                     go_simp
                     with_reducible rfl
                   rotate_left
                   · simp only [Act.put, zi, zi0, zi1, i64_w, i32_w]
                     rfl
                   refine take_ (i := 8) (N := some 32) (v := ?_) (a' := ?_) #[true, true, false, true, true, true, true, true, true, false, false, false, false, false, false] rfl rfl (take_ofW HT_.out HW_.out (by kernel_rfl)) (fun _ _ _ h => h) (Or.inl ⟨by rfl, ?_⟩) hHeld ?_ ?_
                   rotate_left
                   · rintro w' ⟨s0, s1⟩
                     go_simp
                     with_reducible rfl
                   rotate_left
                   · simp only [Act.put, zi, zi0, zi1, i64_w, i32_w]
                     rfl
                   refine one_ (i := 2) (N := some 26) (mk_ 9 15) rfl rfl (one_of HT_.out (by kernel_rfl)) (by decide) (fun K hK => ?_)
                   refine goes_ Try.func53 (by kernel_rfl) rfl #[.slice (some ad253) ((l0.drop 4).take 4).length (c0 - 4)] (by rfl) rfl rfl (by (try simp only [List.map_toArray, List.map_cons, List.map_nil]); first | done | (rw [show ((l0.drop 4).take 4).length = 4 from (by rw [List.length_take]; have h_ : (4 : Int) ≤ ((l0.drop 4).length : Int) := zd; omega)] <;> rfl) | rfl | (simp only [List.length_drop, List.length_take]; rfl)) ?_
                   with_reducible refine (sl_Cl.calls _ _ ((l0.drop 4).take 4) t250 _ ?side1 ?side2 A9.out).mono ?_
                   (case side1 => exact zc (Kd.C_below HR249.out HB.out))
                   (case side2 => exact HC249.out)
                   rintro e w30 ⟨v251, rfl, ho0, hb⟩
                   refine ⟨_, rfl, ?_⟩
                   have HO252 := Aside0.mk (Kd.R_lower ho0 (below_size (zh2 HB.out GE242.out GE247.out)))
                   replace BK242 := Aside0.mk (zB BK242.out hb)
                   replace BK247 := Aside0.mk (zB BK247.out hb)
                   replace HB := Aside0.mk (below_step (zh2 HB.out GE242.out GE247.out) hb)
                   (try clear hb); (try clear hb2)
                   (try clear hk); (try clear hi); (try clear ho0)
                   obtain ⟨Ao31, co31, eo31⟩ := Kd.R_slice HO252.out
                   (first | subst eo31 | (injection eo31 with f1_ f2_ f3_; have f4_ := f1_.symm; have f5_ := f3_.symm; clear f1_ f2_ f3_; subst f4_; subst f5_))
                   refine hK.out _ _ ⟨(pw_cell_below HB.out hw253_0), (pw_cell_below HB.out hw254_0)⟩ (fun hHeld => ?_)
                   clear hK K
                   refine zn (some 26) ?_
                   refine zp (i := 9) (N := some 33) (mk_ 10 15) HT_.out ?_
                   refine one_ (i := 10) (N := none) (mk_ 11 15) rfl rfl (one_of HT_.out (by kernel_rfl)) (by decide) (fun K hK => ?_)
                   have hs32 : w30.cell? ⟨gb247, 4, none⟩ = some (.slice none 0 0) := (blk_cell BK247.out 4).trans rfl
                   have hfs32 := blk_frozen BK247.out 4
                   have hns32_0 := NB242_247.out
                   have hms32_0 := NB247_242.out
                   refine skip_ (w1 := ?_) (by rfl) rfl ?_ ?_
                   rotate_left
                   · go_simp
                     rfl
                   refine hK.out _ _ ⟨((zf hw253_0 GW247.out).trans (hHeld.1)), ((zf hw254_0 GW247.out).trans (hHeld.2))⟩ (fun hHeld => ?_)
                   clear hK K
                   refine zp (i := 11) (N := some 34) (mk_ 12 15) HT_.out ?_
                   refine one_ (i := 12) (N := none) (mk_ 13 15) rfl rfl (one_of HT_.out (by kernel_rfl)) (by decide) (fun K hK => ?_)
                   have hs33 : w30.cell? ⟨gb247, 5, none⟩ = some (.int .i64 0) := (blk_cell BK247.out 5).trans rfl
                   have hfs33 := blk_frozen BK247.out 5
                   have hns33_0 := NB242_247.out
                   have hms33_0 := NB247_242.out
                   refine skip_ (w1 := ?_) (by rfl) rfl ?_ ?_
                   rotate_left
                   · go_simp
                     rfl
                   refine hK.out _ _ ⟨((zf hw253_0 GW247.out).trans (hHeld.1)), ((zf hw254_0 GW247.out).trans (hHeld.2))⟩ (fun hHeld => ?_)
                   clear hK K
                   refine zp (i := 13) (N := some 35) (mk_ 14 15) HT_.out ?_
                   refine one_ (i := 14) (N := none) (mk_ 15 15) rfl rfl (one_of HT_.out (by kernel_rfl)) (by decide) (fun K hK => ?_)
                   have hs34 : w30.cell? ⟨gb247, 6, none⟩ = some (.int .i64 0) := (blk_cell BK247.out 6).trans rfl
                   have hfs34 := blk_frozen BK247.out 6
                   have hns34_0 := NB242_247.out
                   have hms34_0 := NB247_242.out
                   refine skip_ (w1 := ?_) (by rfl) rfl ?_ ?_
                   rotate_left
                   · go_simp
                     rfl
                   refine hK.out _ _ ⟨((zf hw253_0 GW247.out).trans (hHeld.1)), ((zf hw254_0 GW247.out).trans (hHeld.2))⟩ (fun hHeld => ?_)
                   clear hK K
                   refine done_ (done_of HT_.out (by kernel_rfl)) ?_
                   obtain ⟨hcz35_0, hcz35_1, hcz35_2, hcz35_3, hcz35_4, hcz35_5, hcz35_6, hcz35_7, hcz35_8⟩ := cells9 BK247.out
                   obtain ⟨hfz35_0, hfz35_1, hfz35_2, hfz35_3, hfz35_4, hfz35_5, hfz35_6, hfz35_7, hfz35_8⟩ := frozen9 BK247.out
                   obtain ⟨hcz36_0, hcz36_1, hcz36_2, hcz36_3, hcz36_4, hcz36_5, hcz36_6, hcz36_7, hcz36_8⟩ := cells9 BK242.out
                   obtain ⟨hfz36_0, hfz36_1, hfz36_2, hfz36_3, hfz36_4, hfz36_5, hfz36_6, hfz36_7, hfz36_8⟩ := frozen9 BK242.out
                   try go_wp2
                   refine bodyPost_ret (results_cell_row rfl _ _ gb242 25 #[.int .i64 (rd l0 0), .int .i64 (rd l0 1), .int .i64 (rd l0 2), .int .i64 (rd l0 3), .slice Ao31 t250.length co31, .int .i64 (rd (l0.drop 4) 4), .int .i64 (rd (l0.drop 4) 5), .slice none 0 0, .int .i64 0] (0, 0) _ rfl (by (with_reducible repeat (first | refine blk_drewN ?_ _ | refine blk_drew ?_ | refine blk_alloc ?_ _)); refine put9 (cs := #[.int .i64 0, .int .i64 0, .int .i64 0, .int .i64 0, .slice none 0 0, .int .i64 0, .int .i64 0, .slice none 0 0, .int .i64 0]) ?_ rfl; (with_reducible repeat (first | refine blk_drewN ?_ _ | refine blk_drew ?_ | refine blk_alloc ?_ _)); refine blk_far ?_ NB242_247.out _; (with_reducible repeat (first | refine blk_drewN ?_ _ | refine blk_drew ?_ | refine blk_alloc ?_ _)); refine blk_far ?_ NB242_247.out _; (with_reducible repeat (first | refine blk_drewN ?_ _ | refine blk_drew ?_ | refine blk_alloc ?_ _)); refine blk_far ?_ NB242_247.out _; (with_reducible repeat (first | refine blk_drewN ?_ _ | refine blk_drew ?_ | refine blk_alloc ?_ _)); exact BK242.out) Try.underlying25 rfl (by kernel_rfl)) rfl ?_
                   exact ⟨_, _, ze, by (with_reducible repeat (first | apply Kd.R_alloc | apply Kd.R_drewN | apply Kd.R_drew)); exact Kd.R_mono (Kd.R_far (p := ⟨gb242, 8, none⟩) (Kd.R_far (p := ⟨gb242, 7, none⟩) (Kd.R_far (p := ⟨gb242, 6, none⟩) (Kd.R_far (p := ⟨gb242, 5, none⟩) (Kd.R_far (p := ⟨gb242, 4, none⟩) (Kd.R_far (p := ⟨gb242, 3, none⟩) (Kd.R_far (p := ⟨gb242, 2, none⟩) (Kd.R_far (p := ⟨gb242, 1, none⟩) (Kd.R_far (p := ⟨gb242, 0, none⟩) (Kd.R_far (p := ⟨gb247, 6, none⟩) (Kd.R_far (p := ⟨gb247, 5, none⟩) (Kd.R_far (p := ⟨gb247, 4, none⟩) (Kd.R_types (Kd.R_types HO252.out BK247.out (by decide)) BK242.out (by decide)) (fun _ hk => hk.1.2) (.slice Ao31 t250.length co31)) (fun _ hk => hk.1.2) (.int .i64 (rd (l0.drop 4) 4))) (fun _ hk => hk.1.2) (.int .i64 (rd (l0.drop 4) 5))) (fun _ hk => hk.2) (.int .i64 (rd l0 0))) (fun _ hk => hk.2) (.int .i64 (rd l0 1))) (fun _ hk => hk.2) (.int .i64 (rd l0 2))) (fun _ hk => hk.2) (.int .i64 (rd l0 3))) (fun _ hk => hk.2) (.slice Ao31 t250.length co31)) (fun _ hk => hk.2) (.int .i64 (rd (l0.drop 4) 4))) (fun _ hk => hk.2) (.int .i64 (rd (l0.drop 4) 5))) (fun _ hk => hk.2) (.slice none 0 0)) (fun _ hk => hk.2) (.int .i64 0)) (fun _ hk => trivial), by first | exact Kd.R_nil _ _ _ _ _ | exact Kd.N_nil _ _ _ _ _ | exact Kd.V_nil _ _ _ _ _ | exact Kd.Q_nil _ _ _ _ _ | exact Kd.S_nil _ _ _ _ _, zh2 HB.out GE242.out GE247.out⟩
                 · rw [if_neg c11] at H
                   exact absurd H (by simp)
               · rw [if_neg c10] at H
                 exact absurd H (by simp)
             · rw [if_neg c8] at H
               exact absurd H (by simp)
           · rw [if_neg c7] at H
             exact absurd H (by simp)
         · rw [if_neg c6] at H
           exact absurd H (by simp)
       · rw [if_neg c5] at H
         exact absurd H (by simp)
     · rw [if_neg c4] at H
       exact absurd H (by simp)
   · rw [if_neg c3] at H
     exact absurd H (by simp)
 · rw [if_neg c2] at H
   exact absurd H (by simp)

section
attribute [local go_sem] Oper.semAt_some
/-- A region without defers and rows, walked as anywhere, walks so in a round. -/
theorem cards_card2.opsIn_of_ops {P : Program} {ops : Array Oper} {Q : Exit → Act → World → Prop} {l0 n : Nat} (hd : ∀ o ∈ ops, ∀ c, o.op ≠ .defer c) (hout : ¬ LetsOut Q) : ∀ (l : List Nat) (a : Act) (w : World), wpOps P ops Q l a w → wpOpsIn (Fence.wide.inRound l0) n P ops Q l a w
 | [], _, _, h => h
 | i :: rest, a, w, h => by
   have ih := cards_card2.opsIn_of_ops (P := P) (n := n) (l0 := l0) hd hout rest
   simp only [wpOps] at h
   simp only [wpOpsIn]
   cases ho : ops[i]? with
   | none => simp only [ho] at h ⊢; exact ih a w h
   | some o =>
     simp only [ho] at h ⊢
     have hm : o ∈ ops := Array.mem_of_getElem? ho
     by_cases hw : Region.wanted o (yielded ops a.tmps) = true
     · simp only [hw, if_true] at h ⊢
       rcases h with h | ⟨_, h⟩
       · refine ⟨fun _ _ => trivial, ?_⟩
         rw [show (Fence.wide.inRound l0).round = some l0 from rfl, Oper.semAt_some _ _ _ (hd o hm)]
         unfold Oper.wp at h
         generalize (execOp a.eval o).run P w = r at h ⊢
         cases r with
         | ok x w' =>
           cases x with
           | value v => exact ih _ _ h
           | skip => exact ih _ _ h
           | defer d => exact ih _ _ h
           | enter f args =>
             refine ⟨fun hh => by simp [Fence.wide] at hh, CallsIn.inRound l0 (callsIn_wide.2 (Calls.mono h ?_))⟩
             intro e w'' he
             cases e with
             | returned v => exact ih _ _ he
             | panicked c => exact he
             | outgrown => exact he
           | row row args => exact ⟨fun hh => by simp [Fence.wide] at hh, fun c cs _ => let ⟨v, w'', r, s⟩ := h c cs; ⟨v, w'', ih _ _ r, stepsIn_wide.2 s⟩⟩
           | _ => exact h.elim
         | halt x w' => cases x <;> first | exact h | exact h.elim
       · exact absurd h hout
     · simp only [hw, if_false, Bool.false_eq_true] at h ⊢
       exact ⟨fun _ _ => trivial, ih _ _ h⟩

section
variable {P : Program} {ops : Array Oper} {Q : Exit → Act → World → Prop} {S : World → Prop} {ds : List Nat}
/-- A region that draws its order, in a round. -/
theorem cards_card2.startR_ {id m l0 k : Nat} {a : Act} {w : World} (l : Array Bool) (hm : P.follows .mixedOrders = true) (hn : ops.size = m) (hl : Array.replicate m false = l) (hd : ∀ o ∈ ops, ∀ c, o.op ≠ .defer c) (hout : ¬ LetsOut Q) (hS : S w.drew)
 (h : S w.drew → wpAnyLast P .any ops Q S ds m l a w.drew) : (Code.region id ops true).wpIn (Fence.wide.inRound l0) k P Q a w := by
 subst hn
 subst hl
 refine wpIn_region_draw fun t => cards_card2.opsIn_of_ops hd hout _ _ _ ?_
 simp only [Region.schedule, hm, Bool.true_or, if_true]
 exact wpAny_sound ops.size t _ a _ (wpAny_of_last _ _ _ _ (h hS))
end
/-- The first k of m. -/
def cards_card2.upTo (m k : Nat) : List {j : Nat // j < m} := (List.range k).filterMap fun j => if h : j < m then some ⟨j, h⟩ else none
theorem cards_card2.upTo_succ (m k : Nat) (h : k < m) : cards_card2.upTo m (k + 1) = cards_card2.upTo m k ++ [⟨k, h⟩] := by
 unfold cards_card2.upTo
 rw [List.range_succ, List.filterMap_append]
 simp [h]
theorem cards_card2.upTo_len (m : Nat) : ∀ k, k ≤ m → (cards_card2.upTo m k).length = k
 | 0, _ => rfl
 | k + 1, h => by rw [cards_card2.upTo_succ m k (by omega), List.length_append, cards_card2.upTo_len m k (by omega)]; rfl
set_option maxRecDepth 100000 in
set_option maxHeartbeats 4000000 in
/-- The rounds of slices.Chunk: three cells each. -/
theorem cards_card2.chunk1_in (l Bs Bn : Nat) (ad : Addr) (m cap n : Nat) (hn : 1 ≤ n) (hm : m ≤ 3) (hcap : 3 * m ≤ cap) (J Jx : List {j : Nat // j < m} → World → Prop) (Kp : World → World → Prop)
 (hKs : ∀ W W', Kp W W' → ∀ k, k = Bs ∨ k = Bn → ∀ o, W.heap[k]? = some o → W'.heap[k]? = some o)
 (hJd : ∀ pre W, J pre W → J pre W.drew)
 (hY : ∀ pre x W, J pre W → pre.length < m → YieldAt Fence.wide (n - 1) Try.prog l #[.slice (some (ad.add (3 * x.1))) 3 3] W fun e W' =>
   (e = .returned (.bool true) ∧ J (pre ++ [x]) W' ∧ Kp W W') ∨ (e = .returned (.bool false) ∧ Jx (pre ++ [x]) W'))
 (W : World) (hBs : W.heap[Bs]? = some (.cells #[.slice (some ad) (3 * m) cap] 22 (0, 0))) (hBn : W.heap[Bn]? = some (.cells #[.int .i64 3] 3 (0, 0))) (h0 : J [] W) :
 CallsIn Fence.wide n Try.prog 63 #[.func (.yield l) #[] #[], .pointer (some ⟨Bs, 0, none⟩), .pointer (some ⟨Bn, 0, none⟩)] W fun e W' => (∃ v, e = .returned v) ∧
  ((∃ ys, ys = cards_card2.upTo m m ∧ J ys W') ∨ (∃ pre, True ∧ Jx pre W')) := by
 refine callsIn_of_wp Try.func63 rfl trivial ?_ rfl
 simp only [Try.ntmps63, List.size_toArray, List.length_cons, List.length_nil, Nat.reduceAdd, Nat.reduceSub, Array.replicate_succ, Array.replicate_zero, List.push_toArray, List.append_toArray, List.nil_append, List.cons_append]
 gi_wp2
 gi_loopw [4] (fun i wr => ∃ k : Nat, k ≤ m ∧ i = .int .i64 ((3 * k : Nat) : Int) ∧ J (cards_card2.upTo m k) wr ∧ wr.heap[Bs]? = some (.cells #[.slice (some ad) (3 * m) cap] 22 (0, 0)) ∧ wr.heap[Bn]? = some (.cells #[.int .i64 3] 3 (0, 0)))
  (fun i _ => 3 * m - (intOf i).toNat)
 case atStart => exact ⟨0, Nat.zero_le _, rfl, h0, hBs, hBn⟩
 case round =>
  obtain ⟨k, hk, rfl, hJs, hBs0, hBn0⟩ := hrel
  have hBs1 : wr.cell? ⟨Bs, 0, none⟩ = some (.slice (some ad) (3 * m) cap) := (blk_cell hBs0 0).trans rfl
  have hBn1 : wr.cell? ⟨Bn, 0, none⟩ = some (.int .i64 3) := (blk_cell hBn0 0).trans rfl
  by_cases hlt : k < m
  · obtain ⟨fn, tmps, assign, body, hy, hR⟩ := hY _ ⟨k, hlt⟩ wr.drew (hJd _ _ hJs) (by rw [cards_card2.upTo_len m k hk]; exact hlt)
    dsimp only at hy
    have hm1 : ((3 * k : Nat) : Int) < ((3 * m : Nat) : Int) := by omega
    gi_wp2
    refine wpIn_wide.2 ?_
    have hmo : Try.prog.follows .mixedOrders = true := by kernel_rfl
    go_region
    gi_wp2
    refine hR.mono ?_
    rintro e W3 (⟨rfl, hJ3, hk3⟩ | ⟨rfl, hJx3⟩)
    · have hBs3 := hKs _ _ hk3 Bs (.inl rfl) _ (blk_drew hBs0)
      have hBn3 := hKs _ _ hk3 Bn (.inr rfl) _ (blk_drew hBn0)
      have hBn4 : W3.cell? ⟨Bn, 0, none⟩ = some (.int .i64 3) := (blk_cell hBn3 0).trans rfl
      gi_wp2
      go_roundw
      case rel => exact ⟨k + 1, by omega, by first | rfl | (congr 1; omega) | (simp; omega), by rw [cards_card2.upTo_succ m k hlt]; exact hJ3, hBs3, hBn3⟩
      case measure => simp [intOf]; omega
    · gi_wp2
      refine bodyPost_ret (results_none rfl _ _ _) rfl ?_
      exact ⟨⟨_, rfl⟩, .inr ⟨_, trivial, hJx3⟩⟩
  · obtain rfl : k = m := by omega
    gi_wp2
    go_end0
    exact ⟨⟨_, rfl⟩, .inl ⟨_, rfl, hJs⟩⟩
theorem cards_card2.add_pos (a : Addr) {n : Nat} (h : n ≠ 0) : a.add n = ⟨a.block, a.off + n, none⟩ := by unfold Addr.add; rw [if_neg h]
theorem cards_card2.add_plain (b o n : Nat) : (⟨b, o, none⟩ : Addr).add n = ⟨b, o + n, none⟩ := by
 unfold Addr.add
 split
 · subst n; rfl
 · rfl
theorem cards_card2.R_own {α : Type} {d : Kd α} {e base : Nat} {ok : Nat → Prop} {W w1 : World} {u : Value} {xs : List α} {row : Option Nat} (h : d.R e W base ok u xs) (hg : W.grownBy w1 row) (hr : ∀ r, row = some r → ∃ o : Obj, W.heap[r]? = some o ∧ o.isCells = false) : d.R e w1 base ok u xs := by
 cases row with
 | none => exact Kd.R_mono (Kd.R_after (v := .slice none 0 0) (v1 := .slice none 0 0) (Kd.R_mono h (fun k hk => ⟨hk, by simp [Value.ownBlock]⟩)) (by simpa [Value.ownBlock] using hg) (.inl rfl)) (fun k hk => hk.1)
 | some r =>
   obtain ⟨o, ho, hc⟩ := hr r rfl
   refine Kd.R_mono (Kd.R_after (v := .slice (some ⟨r, 0, none⟩) 1 1) (v1 := .slice (some ⟨r, 0, none⟩) 1 1) (Kd.R_mono (Kd.R_bound h) (fun k hk => ⟨hk.1, ?_⟩)) (by simpa [Value.ownBlock] using hg) (.inl rfl)) (fun k hk => hk.1)
   obtain ⟨_, _, _, q, _, cells, hq⟩ := hk
   intro e
   have e2 : k = r := by simpa [Value.ownBlock] using e
   rw [e2, ho] at hq
   cases hq
   cases hc
theorem cards_card2.keeps_row {α : Type} {d : Kd α} {e base : Nat} {ok : Nat → Prop} {W w1 : World} {v : Value} {xs : List α} (h : d.R e W base ok v xs) (hg : W.grownBy w1 v.ownBlock) : KeepsOthers W w1 :=
 ⟨hg.size, fun k o hk ho => (hg.block k (blk_lt hk) (fun e => by
  obtain ⟨_, _, _, q, _, cells, hq⟩ := (Kd.R_bound h).1 k e.symm
  rw [hk] at hq
  cases hq
  cases ho)).trans hk⟩
theorem cards_card2.grown_drew (W : World) : W.grownBy W.drew none := ⟨rfl, rfl, rfl, Nat.le_refl _, fun _ _ _ => rfl⟩
/-- The boxes of slices.Chunk stay. -/
def cards_card2.KpBox (Bs Bn : Nat) (W W' : World) : Prop := ∀ k, k = Bs ∨ k = Bn → ∀ o, W.heap[k]? = some o → W'.heap[k]? = some o
/-- The contract of slices.Chunk's value. -/
theorem cards_card2.chunk_stops (Bs Bn : Nat) (ad : Addr) (m cap n : Nat) (hn : 1 ≤ n) (hm : m ≤ 3) (hcap : 3 * m ≤ cap) (w : World)
 (hBs : w.heap[Bs]? = some (.cells #[.slice (some ad) (3 * m) cap] 22 (0, 0))) (hBn : w.heap[Bn]? = some (.cells #[.int .i64 3] 3 (0, 0))) :
 SeqStopsK Fence.wide n Try.prog 63 #[.pointer (some ⟨Bs, 0, none⟩), .pointer (some ⟨Bn, 0, none⟩)] (fun x : {j : Nat // j < m} => #[.slice (some (ad.add (3 * x.1))) 3 3]) (cards_card2.KpBox Bs Bn) (fun ys => ys = cards_card2.upTo m m) (fun _ => True) m w := fun l J Jx W hW hJ hJx hY h0 => by
 have hBs' := blk_below hBs hW
 have hBn' := blk_below hBn hW
 exact cards_card2.chunk1_in l Bs Bn ad m cap n hn hm hcap J Jx (cards_card2.KpBox Bs Bn) (fun W W' hk => hk) (fun pre W h => hJ pre W W.drew none h (cards_card2.grown_drew W) (fun r e => by cases e)) hY W hBs' hBn' h0
theorem cards_card2.upTo_map_aux {β : Type} (m : Nat) (f : Nat → β) : ∀ k, k ≤ m → (cards_card2.upTo m k).map (fun x => f x.1) = (List.range k).map f
 | 0, _ => rfl
 | k + 1, h => by rw [cards_card2.upTo_succ m k (by omega), List.map_append, cards_card2.upTo_map_aux m f k (by omega), List.range_succ, List.map_append]; rfl
theorem cards_card2.upTo_map {β : Type} (m : Nat) (f : Nat → β) : (cards_card2.upTo m m).map (fun x => f x.1) = (List.range m).map f := cards_card2.upTo_map_aux m f m (Nat.le_refl _)
def cards_card2.T1 : Bool × List (List Nat × List Nat) := (true, [([], []), ([0], [0]), ([1], [1]), ([], []), ([3], [3]), ([4], [4]), ([], []), ([6], [6]), ([7], [7]), ([], []), ([9], [9]), ([10], [10]), ([2, 5, 8, 11], [2, 5, 8, 11]), ([], []), ([13, 12, 0, 1, 2, 3, 4, 5, 6, 7, 8, 9, 10, 11, 12, 13], [12, 13])])
def cards_card2.B1 : List Nat := [0, 1, 3, 0, 8, 24, 0, 64, 192, 0, 512, 1536, 4095, 0, 16383]
theorem cards_card2.tab1 : rtab .any (opsOf Try.f36 1) = cards_card2.T1 := by kernel_rfl
theorem cards_card2.bits1 : waitsOk cards_card2.T1.2 cards_card2.B1 = true := by kernel_rfl
def cards_card2.T9 : Bool × List (List Nat × List Nat) := (true, [([], []), ([0], [0]), ([], []), ([2], [2]), ([3], [3]), ([], []), ([5], [5]), ([6], [6]), ([], []), ([8], [8]), ([9], [9]), ([4, 7, 10], [4, 7, 10]), ([11], [11]), ([1, 12], [1, 12]), ([0, 1, 2, 3, 4, 5, 6, 7, 8, 9, 10, 11, 12, 13], []), ([14, 13, 13, 0, 1, 2, 3, 4, 5, 6, 7, 8, 9, 10, 11, 12, 13], [13, 14])])
def cards_card2.B9 : List Nat := [0, 1, 0, 4, 12, 0, 32, 96, 0, 256, 768, 2044, 4092, 8191, 16383, 32767]
theorem cards_card2.tab9 : rtab .any (opsOf Try.f36 9) = cards_card2.T9 := by kernel_rfl
theorem cards_card2.bits9 : waitsOk cards_card2.T9.2 cards_card2.B9 = true := by kernel_rfl
theorem cards_card2.info48 : (Try.prog.info? 48).map (fun i => (i.zero, i.size, i.bytes)) = some (some (.agg #[.int .i64 0, .int .i64 0, .int .i64 0]), 3, 24) := by kernel_rfl
theorem cards_card2.noDefer {ops : Array Oper} (h : ops.toList.all (fun o => match o.op with | .defer _ => false | _ => true) = true) : ∀ o ∈ ops, ∀ c, o.op ≠ .defer c := by
 intro o ho c e
 have := List.all_eq_true.1 h o (by simpa using ho)
 rw [e] at this
 cases this
/-- A walk in which nothing panics. -/
def cards_card2.NoPan (Q : Exit → Act → World → Prop) : Exit → Act → World → Prop
 | .panic _, _, _ => False
 | e, a, w => Q e a w
theorem cards_card2.NoPan_to {Q : Exit → Act → World → Prop} : ∀ (e : Exit) (a : Act) (w : World), cards_card2.NoPan Q e a w → Q e a w
 | .panic _, _, _, h => h.elim
 | .normal, _, _, h => h
 | .ret, _, _, h => h
 | .exit _, _, _, h => h
 | .goto _, _, _, h => h
 | .outgrown, _, _, h => h
def cards_card2.spanAt (l : List Int) (j : Nat) : S48 := ⟨rd l (5 + 3 * (j : Int)), rd l (5 + 3 * (j : Int) + 1), rd l (5 + 3 * (j : Int) + 2)⟩
set_option maxHeartbeats 8000000 in
set_option maxRecDepth 100000 in
theorem cards_card2.card_two (A0 : Option Addr) (c0 : Nat) (l0 : List Int) (m : Nat) (w : World) (hr0 : Kd.C (Kd.int .i64) w A0 l0.length l0) (hc0 : l0.length ≤ c0) (hlen : l0.length = 15) (h1 : ¬ rd l0 0 = 1) (hm : min (rd l0 4) 3 = (m : Int)) :
 Calls Try.prog 36 #[.slice A0 l0.length c0] w fun e w' => ∃ v7_ : Value, e = .returned (.agg #[.int .i64 (rd l0 0), .int .i64 (rd l0 1), .int .i64 (rd l0 2), .int .i64 (rd l0 3), .slice none 0 0, .int .i64 0, .int .i64 0, v7_, .int .i64 (rd l0 14)]) ∧ Kd.R k48 48 w' w.heap.size (fun _ => True) v7_ ((List.range m).map (cards_card2.spanAt l0)) ∧ Below w.heap.size w w' := by
 have hu25 := Try.underlying25
 have hu48 := Try.underlying48
 have HR0 := Aside0.mk hr0
 have HC0 := Aside0.mk hc0
 clear hr0 hc0
 have HB := Aside0.mk (Below.refl w.heap.size w)
 have c2b0 : decide (0 < (l0.length : Int)) = true := decide_eq_true (by omega)
 have c2b1 : decide (0 < l0.length) = true := decide_eq_true (by omega)
 have c3b0 : decide (1 < (l0.length : Int)) = true := decide_eq_true (by omega)
 have c3b1 : decide (1 < l0.length) = true := decide_eq_true (by omega)
 have c4b0 : decide (2 < (l0.length : Int)) = true := decide_eq_true (by omega)
 have c4b1 : decide (2 < l0.length) = true := decide_eq_true (by omega)
 have c5b0 : decide (3 < (l0.length : Int)) = true := decide_eq_true (by omega)
 have c5b1 : decide (3 < l0.length) = true := decide_eq_true (by omega)
 have c7b0 : ((rd l0 0) == 1) = false := beq_eq_false_iff_ne.mpr h1
 refine (callsIn_wide (n := 9)).1 (callsIn_of_wp_marks Try.func36 rfl trivial ?_ rfl)
 refine wpIn_mono ?_ cards_card2.NoPan_to
 refine wpIn_wide.2 ?_
 simp only [Try.ntmps36, List.size_toArray, List.length_cons, List.length_nil, Nat.reduceAdd, Nat.reduceSub, Array.replicate_succ, Array.replicate_zero, List.push_toArray, List.append_toArray, List.nil_append, List.cons_append]
 try go_wp2_with (first | ((with_reducible refine gate_dst (N := 2) rfl ?_); refine zbx (N := 2) (cs := #[.int .i64 0, .int .i64 0, .int .i64 0, .int .i64 0, .slice none 0 0, .int .i64 0, .int .i64 0, .slice none 0 0, .int .i64 0]) (t := 25) ?_; intro gb242 hg w12 hbox hb; have BK242 := Aside0.mk (hbox); have GW242 := Aside0.mk ((by rw [hg]; exact (below_size (zh0 HB.out)) : w.heap.size ≤ gb242)); have GE242 := GW242; replace HB := Aside0.mk (below_step (zh0 HB.out) hb); clear hb hbox hg))
 replace BK242 := Aside0.mk (blk_drew BK242.out)
 replace HB := Aside0.mk (below_drew1 HB.out)
 have p243 : 0 ≤ (0 : Int) := (by omega)
 have q243 : 0 < (l0.length : Int) := zd
 obtain ⟨ad243, e243, hx243_0⟩ := Kd.at_int HR0.out 0 p243 q243
 have hw243_0 := hx243_0
 (try rw [show ((0 : Int)).toNat = 0 from rfl] at hw243_0)
 (try rw [show 0 * 1 = 0 from rfl] at hw243_0)
 (try rw [Addr.add_zero'] at hw243_0)
 cases e243
 have qi243 : (0 < l0.length) = True := eq_true (by omega)
 (try rw [show ((0 : Int)).toNat = 0 from rfl] at hx243_0)
 (try rw [Addr.add_zero'] at hx243_0)
 replace hx243_0 := pw_cell_below HB.out hx243_0
 replace p243 := eq_true p243
 replace q243 := eq_true q243
 have p244 : 0 ≤ (1 : Int) := (by omega)
 have q244 : 1 < (l0.length : Int) := zd
 obtain ⟨ad244, e244, hx244_0⟩ := Kd.at_int HR0.out 1 p244 q244
 have hw244_0 := hx244_0
 (try rw [show ((1 : Int)).toNat = 1 from rfl] at hw244_0)
 (try rw [show 1 * 1 = 1 from rfl] at hw244_0)
 (try simp only [Nat.reduceMul, Nat.reduceEqDiff, Go.Addr.add, ↓reduceIte] at hw244_0)
 obtain rfl : ad243 = ad244 := (by injection e244)
 (try simp only [show (1 : Int).toNat = 1 from rfl, Nat.reduceMul, Nat.reduceEqDiff, Go.Addr.add, ↓reduceIte] at hx244_0)
 have qi244 : (1 < l0.length) = True := eq_true (by omega)
 (try rw [show ((1 : Int)).toNat = 1 from rfl] at hx244_0)
 replace hx244_0 := pw_cell_below HB.out hx244_0
 replace p244 := eq_true p244
 replace q244 := eq_true q244
 have p245 : 0 ≤ (2 : Int) := (by omega)
 have q245 : 2 < (l0.length : Int) := zd
 obtain ⟨ad245, e245, hx245_0⟩ := Kd.at_int HR0.out 2 p245 q245
 have hw245_0 := hx245_0
 (try rw [show ((2 : Int)).toNat = 2 from rfl] at hw245_0)
 (try rw [show 2 * 1 = 2 from rfl] at hw245_0)
 (try simp only [Nat.reduceMul, Nat.reduceEqDiff, Go.Addr.add, ↓reduceIte] at hw245_0)
 obtain rfl : ad243 = ad245 := (by injection e245)
 (try simp only [show (2 : Int).toNat = 2 from rfl, Nat.reduceMul, Nat.reduceEqDiff, Go.Addr.add, ↓reduceIte] at hx245_0)
 have qi245 : (2 < l0.length) = True := eq_true (by omega)
 (try rw [show ((2 : Int)).toNat = 2 from rfl] at hx245_0)
 replace hx245_0 := pw_cell_below HB.out hx245_0
 replace p245 := eq_true p245
 replace q245 := eq_true q245
 have p246 : 0 ≤ (3 : Int) := (by omega)
 have q246 : 3 < (l0.length : Int) := zd
 obtain ⟨ad246, e246, hx246_0⟩ := Kd.at_int HR0.out 3 p246 q246
 have hw246_0 := hx246_0
 (try rw [show ((3 : Int)).toNat = 3 from rfl] at hw246_0)
 (try rw [show 3 * 1 = 3 from rfl] at hw246_0)
 (try simp only [Nat.reduceMul, Nat.reduceEqDiff, Go.Addr.add, ↓reduceIte] at hw246_0)
 obtain rfl : ad243 = ad246 := (by injection e246)
 (try simp only [show (3 : Int).toNat = 3 from rfl, Nat.reduceMul, Nat.reduceEqDiff, Go.Addr.add, ↓reduceIte] at hx246_0)
 have qi246 : (3 < l0.length) = True := eq_true (by omega)
 (try rw [show ((3 : Int)).toNat = 3 from rfl] at hx246_0)
 replace hx246_0 := pw_cell_below HB.out hx246_0
 replace p246 := eq_true p246
 replace q246 := eq_true q246
 refine start_ (n := 15) (S := fun w' => w'.cell? ad243 = some (.int .i64 (rd l0 0)) ∧ w'.cell? ⟨ad243.block, ad243.off + 1, none⟩ = some (.int .i64 (rd l0 1)) ∧ w'.cell? ⟨ad243.block, ad243.off + 2, none⟩ = some (.int .i64 (rd l0 2)) ∧ w'.cell? ⟨ad243.block, ad243.off + 3, none⟩ = some (.int .i64 (rd l0 3))) (ds := []) (mk_ 0 15) (by kernel_rfl) rfl rfl ⟨(pw_cell_below HB.out hw243_0), (pw_cell_below HB.out hw244_0), (pw_cell_below HB.out hw245_0), (pw_cell_below HB.out hw246_0)⟩ (fun hHeld => ?_); refine with_tabW cards_card2.tab1 cards_card2.bits1 (fun HT_ HW_ => ?_)
 generalize w12.drew = w13 at BK242 HB hx243_0 hx244_0 hx245_0 hx246_0 hHeld ⊢
 refine zp (i := 0) (N := some 6) (mk_ 1 15) HT_.out ?_
 refine zp (i := 1) (N := some 7) (mk_ 2 15) HT_.out ?_
 refine zp (i := 3) (N := some 9) #[true, true, false, true, false, false, false, false, false, false, false, false, false, false, false] HT_.out ?_
 refine zp (i := 4) (N := some 10) #[true, true, false, true, true, false, false, false, false, false, false, false, false, false, false] HT_.out ?_
 refine zp (i := 6) (N := some 12) #[true, true, false, true, true, false, true, false, false, false, false, false, false, false, false] HT_.out ?_
 refine zp (i := 7) (N := some 13) #[true, true, false, true, true, false, true, true, false, false, false, false, false, false, false] HT_.out ?_
 refine zp (i := 9) (N := some 15) #[true, true, false, true, true, false, true, true, false, true, false, false, false, false, false] HT_.out ?_
 refine zp (i := 10) (N := some 16) #[true, true, false, true, true, false, true, true, false, true, true, false, false, false, false] HT_.out ?_
 refine take_ (i := 2) (N := some 8) (v := ?_) (a' := ?_) #[true, true, true, true, true, false, true, true, false, true, true, false, false, false, false] rfl rfl (take_ofW HT_.out HW_.out (by kernel_rfl)) (fun _ _ _ h => h) (Or.inl ⟨by rfl, ?_⟩) hHeld ?_ ?_
 rotate_left
 · rintro w' ⟨s0, s1, s2, s3⟩
   go_simp
   with_reducible rfl
 rotate_left
 · simp only [Act.put, zi, zi0, zi1, i64_w, i32_w]
   rfl
 refine take_ (i := 5) (N := some 11) (v := ?_) (a' := ?_) #[true, true, true, true, true, true, true, true, false, true, true, false, false, false, false] rfl rfl (take_ofW HT_.out HW_.out (by kernel_rfl)) (fun _ _ _ h => h) (Or.inl ⟨by rfl, ?_⟩) hHeld ?_ ?_
 rotate_left
 · rintro w' ⟨s0, s1, s2, s3⟩
   go_simp
   with_reducible rfl
 rotate_left
 · simp only [Act.put, zi, zi0, zi1, i64_w, i32_w]
   rfl
 refine take_ (i := 8) (N := some 14) (v := ?_) (a' := ?_) (mk_ 11 15) rfl rfl (take_ofW HT_.out HW_.out (by kernel_rfl)) (fun _ _ _ h => h) (Or.inl ⟨by rfl, ?_⟩) hHeld ?_ ?_
 rotate_left
 · rintro w' ⟨s0, s1, s2, s3⟩
   go_simp
   with_reducible rfl
 rotate_left
 · simp only [Act.put, zi, zi0, zi1, i64_w, i32_w]
   rfl
 refine take_ (i := 11) (N := some 17) (v := ?_) (a' := ?_) (mk_ 12 15) rfl rfl (take_ofW HT_.out HW_.out (by kernel_rfl)) (fun _ _ _ h => h) (Or.inl ⟨by rfl, ?_⟩) hHeld ?_ ?_
 rotate_left
 · rintro w' ⟨s0, s1, s2, s3⟩
   go_simp
   with_reducible rfl
 rotate_left
 · simp only [Act.put, zi, zi0, zi1, i64_w, i32_w]
   rfl
 refine zp (i := 12) (N := some 18) (mk_ 13 15) HT_.out ?_
 refine one_ (i := 13) (N := some 3) (mk_ 14 15) rfl rfl (one_of HT_.out (by kernel_rfl)) (by decide) (fun K hK => ?_)
 refine box_step ?hg (N := 3) ?hd (cs := #[.int .i64 0, .int .i64 0, .int .i64 0, .int .i64 0, .slice none 0 0, .int .i64 0, .int .i64 0, .slice none 0 0, .int .i64 0]) (t := 25) ?hr ?_; (case hd => rfl); (case hg => rfl); (case hr => first | (go_simp; done) | (go_simp; rfl))
 intro gb247 hg w14 hbox hb
 have BK247 := Aside0.mk (hbox)
 have GW247 := Aside0.mk ((by rw [hg]; exact (below_size (zh1 HB.out GE242.out)) : w.heap.size ≤ gb247))
 have GE247 := GW247
 replace HB := Aside0.mk (below_step (zh1 HB.out GE242.out) hb)
 have NB242_247 := Aside0.mk ((by rw [hg]; exact Nat.ne_of_lt (blk_lt (g := gb242) (o := .cells #[.int .i64 0, .int .i64 0, .int .i64 0, .int .i64 0, .slice none 0 0, .int .i64 0, .int .i64 0, .slice none 0 0, .int .i64 0] 25 (0, 0)) (zb BK242.out)) : gb242 ≠ gb247))
 have NB247_242 := Aside0.mk ((by rw [hg]; exact Nat.ne_of_gt (blk_lt (g := gb242) (o := .cells #[.int .i64 0, .int .i64 0, .int .i64 0, .int .i64 0, .slice none 0 0, .int .i64 0, .int .i64 0, .slice none 0 0, .int .i64 0] 25 (0, 0)) (zb BK242.out)) : gb247 ≠ gb242))
 replace BK242 := Aside0.mk (zB BK242.out hb)
 clear hb hbox hg
 refine hK.out _ _ ⟨(pw_cell_below HB.out hw243_0), (pw_cell_below HB.out hw244_0), (pw_cell_below HB.out hw245_0), (pw_cell_below HB.out hw246_0)⟩ (fun hHeld => ?_)
 clear hK K
 refine zn (some 3) ?_
 refine one_ (i := 14) (N := none) (mk_ 15 15) rfl rfl (one_of HT_.out (by kernel_rfl)) (by decide) (fun K hK => ?_)
 have hs15 : w14.cell? ⟨gb247, 0, none⟩ = some (.int .i64 0) := (blk_cell BK247.out 0).trans rfl
 have hfs15 := blk_frozen BK247.out 0
 have hns15_0 := NB242_247.out
 have hms15_0 := NB247_242.out
 have hs16 : w14.cell? ⟨gb247, 1, none⟩ = some (.int .i64 0) := (blk_cell BK247.out 1).trans rfl
 have hfs16 := blk_frozen BK247.out 1
 have hns16_0 := NB242_247.out
 have hms16_0 := NB247_242.out
 have hs17 : w14.cell? ⟨gb247, 2, none⟩ = some (.int .i64 0) := (blk_cell BK247.out 2).trans rfl
 have hfs17 := blk_frozen BK247.out 2
 have hns17_0 := NB242_247.out
 have hms17_0 := NB247_242.out
 have hs18 : w14.cell? ⟨gb247, 3, none⟩ = some (.int .i64 0) := (blk_cell BK247.out 3).trans rfl
 have hfs18 := blk_frozen BK247.out 3
 have hns18_0 := NB242_247.out
 have hms18_0 := NB247_242.out
 have hs19 : w14.cell? ⟨gb247, 4, none⟩ = some (.slice none 0 0) := (blk_cell BK247.out 4).trans rfl
 have hfs19 := blk_frozen BK247.out 4
 have hns19_0 := NB242_247.out
 have hms19_0 := NB247_242.out
 have hs20 : w14.cell? ⟨gb247, 5, none⟩ = some (.int .i64 0) := (blk_cell BK247.out 5).trans rfl
 have hfs20 := blk_frozen BK247.out 5
 have hns20_0 := NB242_247.out
 have hms20_0 := NB247_242.out
 have hs21 : w14.cell? ⟨gb247, 6, none⟩ = some (.int .i64 0) := (blk_cell BK247.out 6).trans rfl
 have hfs21 := blk_frozen BK247.out 6
 have hns21_0 := NB242_247.out
 have hms21_0 := NB247_242.out
 have hs22 : w14.cell? ⟨gb247, 7, none⟩ = some (.slice none 0 0) := (blk_cell BK247.out 7).trans rfl
 have hfs22 := blk_frozen BK247.out 7
 have hns22_0 := NB242_247.out
 have hms22_0 := NB247_242.out
 have hs23 : w14.cell? ⟨gb247, 8, none⟩ = some (.int .i64 0) := (blk_cell BK247.out 8).trans rfl
 have hfs23 := blk_frozen BK247.out 8
 have hns23_0 := NB242_247.out
 have hms23_0 := NB247_242.out
 refine skip_ (w1 := ?_) (by rfl) rfl ?_ ?_
 rotate_left
 · go_simp
   rfl
 refine hK.out _ _ ⟨((zf hw243_0 GW247.out).trans (((zf hw243_0 GW247.out).trans (((zf hw243_0 GW247.out).trans (((zf hw243_0 GW247.out).trans (((zf hw243_0 GW247.out).trans (((zf hw243_0 GW247.out).trans (((zf hw243_0 GW247.out).trans (((zf hw243_0 GW247.out).trans (((zf hw243_0 GW247.out).trans (hHeld.1)))))))))))))))))), ((zf hw244_0 GW247.out).trans (((zf hw244_0 GW247.out).trans (((zf hw244_0 GW247.out).trans (((zf hw244_0 GW247.out).trans (((zf hw244_0 GW247.out).trans (((zf hw244_0 GW247.out).trans (((zf hw244_0 GW247.out).trans (((zf hw244_0 GW247.out).trans (((zf hw244_0 GW247.out).trans (hHeld.2.1)))))))))))))))))), ((zf hw245_0 GW247.out).trans (((zf hw245_0 GW247.out).trans (((zf hw245_0 GW247.out).trans (((zf hw245_0 GW247.out).trans (((zf hw245_0 GW247.out).trans (((zf hw245_0 GW247.out).trans (((zf hw245_0 GW247.out).trans (((zf hw245_0 GW247.out).trans (((zf hw245_0 GW247.out).trans (hHeld.2.2.1)))))))))))))))))), ((zf hw246_0 GW247.out).trans (((zf hw246_0 GW247.out).trans (((zf hw246_0 GW247.out).trans (((zf hw246_0 GW247.out).trans (((zf hw246_0 GW247.out).trans (((zf hw246_0 GW247.out).trans (((zf hw246_0 GW247.out).trans (((zf hw246_0 GW247.out).trans (((zf hw246_0 GW247.out).trans (hHeld.2.2.2))))))))))))))))))⟩ (fun hHeld => ?_)
 clear hK K
 refine done_ (done_of HT_.out (by kernel_rfl)) ?_
 have n0_ : Aside0 ((((((((((w14.setCell ⟨gb247, 0, none⟩ (.int .i64 (rd l0 0))).setCell ⟨gb247, 1, none⟩ (.int .i64 (rd l0 1))).setCell ⟨gb247, 2, none⟩ (.int .i64 (rd l0 2))).setCell ⟨gb247, 3, none⟩ (.int .i64 (rd l0 3))).setCell ⟨gb247, 4, none⟩ (.slice none 0 0)).setCell ⟨gb247, 5, none⟩ (.int .i64 0)).setCell ⟨gb247, 6, none⟩ (.int .i64 0)).setCell ⟨gb247, 7, none⟩ (.slice none 0 0)).setCell ⟨gb247, 8, none⟩ (.int .i64 0)).heap[gb242]? = some (.cells #[.int .i64 0, .int .i64 0, .int .i64 0, .int .i64 0, .slice none 0 0, .int .i64 0, .int .i64 0, .slice none 0 0, .int .i64 0] 25 (0, 0))) := ⟨by (with_reducible repeat (first | refine blk_drewN ?_ _ | refine blk_drew ?_ | refine blk_alloc ?_ _)); refine far9 ?_ NB242_247.out; (with_reducible repeat (first | refine blk_drewN ?_ _ | refine blk_drew ?_ | refine blk_alloc ?_ _)); exact BK242.out⟩
 have n1_ : Aside0 ((((((((((w14.setCell ⟨gb247, 0, none⟩ (.int .i64 (rd l0 0))).setCell ⟨gb247, 1, none⟩ (.int .i64 (rd l0 1))).setCell ⟨gb247, 2, none⟩ (.int .i64 (rd l0 2))).setCell ⟨gb247, 3, none⟩ (.int .i64 (rd l0 3))).setCell ⟨gb247, 4, none⟩ (.slice none 0 0)).setCell ⟨gb247, 5, none⟩ (.int .i64 0)).setCell ⟨gb247, 6, none⟩ (.int .i64 0)).setCell ⟨gb247, 7, none⟩ (.slice none 0 0)).setCell ⟨gb247, 8, none⟩ (.int .i64 0)).heap[gb247]? = some (.cells #[.int .i64 (rd l0 0), .int .i64 (rd l0 1), .int .i64 (rd l0 2), .int .i64 (rd l0 3), .slice none 0 0, .int .i64 0, .int .i64 0, .slice none 0 0, .int .i64 0] 25 (0, 0))) := ⟨by (with_reducible repeat (first | refine blk_drewN ?_ _ | refine blk_drew ?_ | refine blk_alloc ?_ _)); refine put9 (cs := #[.int .i64 0, .int .i64 0, .int .i64 0, .int .i64 0, .slice none 0 0, .int .i64 0, .int .i64 0, .slice none 0 0, .int .i64 0]) ?_ rfl; (with_reducible repeat (first | refine blk_drewN ?_ _ | refine blk_drew ?_ | refine blk_alloc ?_ _)); exact BK247.out⟩
 have n2_ : Aside0 (Below w.heap.size w (((((((((w14.setCell ⟨gb247, 0, none⟩ (.int .i64 (rd l0 0))).setCell ⟨gb247, 1, none⟩ (.int .i64 (rd l0 1))).setCell ⟨gb247, 2, none⟩ (.int .i64 (rd l0 2))).setCell ⟨gb247, 3, none⟩ (.int .i64 (rd l0 3))).setCell ⟨gb247, 4, none⟩ (.slice none 0 0)).setCell ⟨gb247, 5, none⟩ (.int .i64 0)).setCell ⟨gb247, 6, none⟩ (.int .i64 0)).setCell ⟨gb247, 7, none⟩ (.slice none 0 0)).setCell ⟨gb247, 8, none⟩ (.int .i64 0))) := ⟨zh2 HB.out GE242.out GE247.out⟩
 (try clear BK242); (try clear BK247); (try clear HB)
 generalize (((((((((w14.setCell ⟨gb247, 0, none⟩ (.int .i64 (rd l0 0))).setCell ⟨gb247, 1, none⟩ (.int .i64 (rd l0 1))).setCell ⟨gb247, 2, none⟩ (.int .i64 (rd l0 2))).setCell ⟨gb247, 3, none⟩ (.int .i64 (rd l0 3))).setCell ⟨gb247, 4, none⟩ (.slice none 0 0)).setCell ⟨gb247, 5, none⟩ (.int .i64 0)).setCell ⟨gb247, 6, none⟩ (.int .i64 0)).setCell ⟨gb247, 7, none⟩ (.slice none 0 0)).setCell ⟨gb247, 8, none⟩ (.int .i64 0)) = w27 at n0_ n1_ n2_ ⊢
 have BK242 := n0_
 have BK247 := n1_
 have HB := n2_
 clear n0_ n1_ n2_
 have hm3 : m ≤ 3 := by omega
 have hmin : (if (3 : Int) < rd l0 4 then (3 : Int) else rd l0 4) = (m : Int) := by split <;> omega
 have hc15 : 15 ≤ c0 := by have := HC0.out; omega
 have hc15b := eq_true hc15
 have p260 : 0 ≤ (4 : Int) := by omega
 have q260 : 4 < (l0.length : Int) := by omega
 obtain ⟨ad260, e260, hx260⟩ := Kd.at_int HR0.out 4 p260 q260
 obtain rfl : ad243 = ad260 := (by injection e260)
 (try simp only [show (4 : Int).toNat = 4 from rfl, Nat.reduceMul, Nat.reduceEqDiff, Go.Addr.add, ↓reduceIte] at hx260)
 replace hx260 := pw_cell_below HB.out hx260
 obtain ⟨hcz26_0, hcz26_1, hcz26_2, hcz26_3, hcz26_4, hcz26_5, hcz26_6, hcz26_7, hcz26_8⟩ := cells9 BK247.out
 obtain ⟨hfz26_0, hfz26_1, hfz26_2, hfz26_3, hfz26_4, hfz26_5, hfz26_6, hfz26_7, hfz26_8⟩ := frozen9 BK247.out
 go_wp2
 obtain ⟨adS, hadS⟩ : ∃ a : Addr, a = ⟨ad243.block, ad243.off + 4 + 1, none⟩ := ⟨_, rfl⟩
 rw [← hadS]
 obtain ⟨W0, hW0⟩ : ∃ W, (w27.alloc (.cells #[.slice (some adS) (3 * m) (c0 - 4 - 1)] 22)).alloc (.cells #[.int .i64 3] 3) = W := ⟨_, rfl⟩
 have hBs : W0.heap[w27.heap.size]? = some (.cells #[.slice (some adS) (3 * m) (c0 - 4 - 1)] 22 (0, 0)) := by rw [← hW0]; exact blk_alloc (blk_new _ _) _
 have hBn : W0.heap[w27.heap.size + 1]? = some (.cells #[.int .i64 3] 3 (0, 0)) := by
  rw [← hW0]
  have := blk_new (w27.alloc (.cells #[.slice (some adS) (3 * m) (c0 - 4 - 1)] 22)) (.cells #[.int .i64 3] 3)
  rwa [World.size_alloc] at this
 have hsz : W0.heap.size = w27.heap.size + 2 := by rw [← hW0, World.size_alloc, World.size_alloc]
 have g242 : W0.heap[gb242]? = some (.cells #[.int .i64 0, .int .i64 0, .int .i64 0, .int .i64 0, .slice none 0 0, .int .i64 0, .int .i64 0, .slice none 0 0, .int .i64 0] 25 (0, 0)) := by rw [← hW0]; exact blk_alloc (blk_alloc BK242.out _) _
 have g247 : W0.heap[gb247]? = some (.cells #[.int .i64 (rd l0 0), .int .i64 (rd l0 1), .int .i64 (rd l0 2), .int .i64 (rd l0 3), .slice none 0 0, .int .i64 0, .int .i64 0, .slice none 0 0, .int .i64 0] 25 (0, 0)) := by rw [← hW0]; exact blk_alloc (blk_alloc BK247.out _) _
 have HB0 : Below w.heap.size w W0 := by rw [← hW0]; exact below_alloc (below_alloc HB.out _) _
 have lt242 : gb242 < w27.heap.size := blk_lt BK242.out
 have lt247 : gb247 < w27.heap.size := blk_lt BK247.out
 have hel : ∀ j, j < m → w.cell? (adS.add (3 * j)) = some (.int .i64 (cards_card2.spanAt l0 j).f0) ∧ w.cell? ⟨(adS.add (3 * j)).block, (adS.add (3 * j)).off + 1, none⟩ = some (.int .i64 (cards_card2.spanAt l0 j).f1) ∧ w.cell? ⟨(adS.add (3 * j)).block, (adS.add (3 * j)).off + 2, none⟩ = some (.int .i64 (cards_card2.spanAt l0 j).f2) := by
  intro j hj
  obtain ⟨a0, ea0, x0⟩ := Kd.at_int HR0.out (5 + 3 * (j : Int)) (by omega) (by omega)
  obtain ⟨a1, ea1, x1⟩ := Kd.at_int HR0.out (5 + 3 * (j : Int) + 1) (by omega) (by omega)
  obtain ⟨a2, ea2, x2⟩ := Kd.at_int HR0.out (5 + 3 * (j : Int) + 2) (by omega) (by omega)
  obtain rfl : ad243 = a0 := (by injection ea0)
  obtain rfl : ad243 = a1 := (by injection ea1)
  obtain rfl : ad243 = a2 := (by injection ea2)
  rw [show (5 + 3 * (j : Int)).toNat = 5 + 3 * j from by omega, cards_card2.add_pos _ (by omega)] at x0
  rw [show (5 + 3 * (j : Int) + 1).toNat = 5 + 3 * j + 1 from by omega, cards_card2.add_pos _ (by omega)] at x1
  rw [show (5 + 3 * (j : Int) + 2).toNat = 5 + 3 * j + 2 from by omega, cards_card2.add_pos _ (by omega)] at x2
  subst hadS
  rw [cards_card2.add_plain]
  refine ⟨?_, ?_, ?_⟩
  · rw [show ad243.off + 4 + 1 + 3 * j = ad243.off + (5 + 3 * j) from by omega]; exact x0
  · show w.cell? ⟨ad243.block, ad243.off + 4 + 1 + 3 * j + 1, none⟩ = _
    rw [show ad243.off + 4 + 1 + 3 * j + 1 = ad243.off + (5 + 3 * j + 1) from by omega]; exact x1
  · show w.cell? ⟨ad243.block, ad243.off + 4 + 1 + 3 * j + 2, none⟩ = _
    rw [show ad243.off + 4 + 1 + 3 * j + 2 = ad243.off + (5 + 3 * j + 2) from by omega]; exact x2
 rw [hW0]
 clear hadS
 clear hcz26_0 hcz26_1 hcz26_2 hcz26_3 hcz26_4 hcz26_5 hcz26_6 hcz26_7 hcz26_8 hfz26_0 hfz26_1 hfz26_2 hfz26_3 hfz26_4 hfz26_5 hfz26_6 hfz26_7 hfz26_8
 refine (wpIn_wide (n := 9)).1 ?_
 refine wpIn_rangeFunc_ownG (n := 9) rfl (by omega) (gf := 63) (lb := #[.pointer (some ⟨w27.heap.size, 0, none⟩), .pointer (some ⟨w27.heap.size + 1, 0, none⟩)]) rfl trivial (Go.Proofs.enters_of Try.func63 (by kernel_rfl) rfl)
  (cards_card2.chunk_stops (w27.heap.size) (w27.heap.size + 1) adS m (c0 - 4 - 1) 8 (by omega) hm3 (by omega) W0 hBs hBn)
  (fun h k x hx o ho => k x hx o (h x hx o ho))
  (fun W l o o' hl _ _ _ x hx o1 ho1 => (World.putObj_heap_other (by omega)).trans ho1)
  (Below.refl _ _) (fun _ => rfl)
  (fun pre W => (∃ v7, W.heap[gb247]? = some (.cells #[.int .i64 (rd l0 0), .int .i64 (rd l0 1), .int .i64 (rd l0 2), .int .i64 (rd l0 3), .slice none 0 0, .int .i64 0, .int .i64 0, v7, .int .i64 0] 25 (0, 0)) ∧ Kd.R k48 48 W w.heap.size (fun _ => True) v7 (pre.map (fun x => cards_card2.spanAt l0 x.1))) ∧ W.heap[gb242]? = some (.cells #[.int .i64 0, .int .i64 0, .int .i64 0, .int .i64 0, .slice none 0 0, .int .i64 0, .int .i64 0, .slice none 0 0, .int .i64 0] 25 (0, 0)) ∧ W.heap[w27.heap.size]? = some (.cells #[.slice (some adS) (3 * m) (c0 - 4 - 1)] 22 (0, 0)) ∧ W.heap[w27.heap.size + 1]? = some (.cells #[.int .i64 3] 3 (0, 0)) ∧ Below w.heap.size w W)
  (fun _ _ _ => False)
  ?hI (fun _ _ _ _ _ h _ _ => h) ⟨⟨_, g247, Kd.R_nil _ _ _ _ _⟩, g242, hBs, hBn, HB0⟩ ?a1 ?assign ?body ?done (fun _ _ _ _ _ _ h _ => h.elim)
 case assign =>
  intro l x W K hK
  gi_wp2
  exact hK
 case hI =>
  intro pre W W' row h hg hr
  obtain ⟨⟨v7, h1_, h2_⟩, h3_, h5_, h6_, h4_⟩ := h
  have nonc : ∀ (g : Nat) (cs : Array Value) (t : TypeId), W.heap[g]? = some (.cells cs t (0, 0)) → some g ≠ row := fun g cs t hh e => by
   obtain ⟨_, o, ho, hc⟩ := hr g e.symm
   rw [hh] at ho
   cases ho
   cases hc
  exact ⟨⟨v7, blk_grown h1_ hg (nonc _ _ _ h1_), cards_card2.R_own h2_ hg (fun r e => (hr r e).2)⟩, blk_grown h3_ hg (nonc _ _ _ h3_), blk_grown h5_ hg (nonc _ _ _ h5_), blk_grown h6_ hg (nonc _ _ _ h6_), h4_.grown hg h4_.size (fun r e => Nat.le_trans HB0.size (hr r e).1)⟩
 case body =>
  rintro l pre x W ⟨⟨v7, h1_, h2_⟩, h3_, h5_, h6_, h4_⟩ hlt_
  obtain ⟨be0, be1, be2⟩ := hel x.1 x.2
  have cellB : ∀ (p : Addr) (v : Value) {W' : World}, Below w.heap.size w W' → w.cell? p = some v → W'.cell? p = some v := fun p v W' hb hp => (hb.cell (World.block_lt_of_cell? w _ hp)).trans hp
  refine wpIn_block ?_
  refine cards_card2.startR_ (m := 16) (S := fun w' => w'.cell? ⟨gb247, 7, none⟩ = some v7 ∧ w'.cell? (adS.add (3 * x.1)) = some (.int .i64 (cards_card2.spanAt l0 x.1).f0) ∧ w'.cell? ⟨(adS.add (3 * x.1)).block, (adS.add (3 * x.1)).off + 1, none⟩ = some (.int .i64 (cards_card2.spanAt l0 x.1).f1) ∧ w'.cell? ⟨(adS.add (3 * x.1)).block, (adS.add (3 * x.1)).off + 2, none⟩ = some (.int .i64 (cards_card2.spanAt l0 x.1).f2)) (ds := [15]) (mk_ 0 16) (by kernel_rfl) rfl rfl (cards_card2.noDefer (by kernel_rfl)) (fun ⟨_, _, h⟩ => h) ⟨(blk_cell (blk_drew h1_) 7).trans rfl, cellB _ _ (below_drew1 h4_) be0, cellB _ _ (below_drew1 h4_) be1, cellB _ _ (below_drew1 h4_) be2⟩ (fun hHeld => ?_)
  refine with_tabW cards_card2.tab9 cards_card2.bits9 (fun HT_ HW_ => ?_)
  have h5w := h5_
  have h6w := h6_
  replace h1_ := blk_drew h1_
  replace h2_ := Kd.R_drew h2_
  replace h3_ := blk_drew h3_
  replace h4_ := below_drew1 h4_
  replace h5_ := blk_drew h5_
  replace h6_ := blk_drew h6_
  generalize hW1 : W.drew = W1 at h1_ h2_ h3_ h4_ h5_ h6_ hHeld ⊢
  refine zp (i := 0) (N := some 48) (mk_ 1 16) HT_.out ?_
  refine zp (i := 2) (N := some 50) #[true, false, true, false, false, false, false, false, false, false, false, false, false, false, false, false] HT_.out ?_
  refine zp (i := 3) (N := some 51) #[true, false, true, true, false, false, false, false, false, false, false, false, false, false, false, false] HT_.out ?_
  refine zp (i := 5) (N := some 53) #[true, false, true, true, false, true, false, false, false, false, false, false, false, false, false, false] HT_.out ?_
  refine zp (i := 6) (N := some 54) #[true, false, true, true, false, true, true, false, false, false, false, false, false, false, false, false] HT_.out ?_
  refine zp (i := 8) (N := some 56) #[true, false, true, true, false, true, true, false, true, false, false, false, false, false, false, false] HT_.out ?_
  refine zp (i := 9) (N := some 57) #[true, false, true, true, false, true, true, false, true, true, false, false, false, false, false, false] HT_.out ?_
  refine take_ (i := 1) (N := some 49) (v := ?_) (a' := ?_) #[true, true, true, true, false, true, true, false, true, true, false, false, false, false, false, false] rfl rfl (take_ofW HT_.out HW_.out (by kernel_rfl)) (fun _ _ _ h => h) (Or.inl ⟨by rfl, ?_⟩) hHeld ?_ ?_
  rotate_left
  · rintro w' ⟨s0, s1, s2, s3⟩
    go_simp
    with_reducible rfl
  rotate_left
  · simp only [Act.put, zi, zi0, zi1, i64_w, i32_w]
    rfl
  refine take_ (i := 4) (N := some 52) (v := ?_) (a' := ?_) #[true, true, true, true, true, true, true, false, true, true, false, false, false, false, false, false] rfl rfl (take_ofW HT_.out HW_.out (by kernel_rfl)) (fun _ _ _ h => h) (Or.inl ⟨by rfl, ?_⟩) hHeld ?_ ?_
  rotate_left
  · rintro w' ⟨s0, s1, s2, s3⟩
    go_simp
    with_reducible rfl
  rotate_left
  · simp only [Act.put, zi, zi0, zi1, i64_w, i32_w]
    rfl
  refine take_ (i := 7) (N := some 55) (v := ?_) (a' := ?_) (mk_ 10 16) rfl rfl (take_ofW HT_.out HW_.out (by kernel_rfl)) (fun _ _ _ h => h) (Or.inl ⟨by rfl, ?_⟩) hHeld ?_ ?_
  rotate_left
  · rintro w' ⟨s0, s1, s2, s3⟩
    go_simp
    with_reducible rfl
  rotate_left
  · simp only [Act.put, zi, zi0, zi1, i64_w, i32_w]
    rfl
  refine take_ (i := 10) (N := some 58) (v := ?_) (a' := ?_) (mk_ 11 16) rfl rfl (take_ofW HT_.out HW_.out (by kernel_rfl)) (fun _ _ _ h => h) (Or.inl ⟨by rfl, ?_⟩) hHeld ?_ ?_
  rotate_left
  · rintro w' ⟨s0, s1, s2, s3⟩
    go_simp
    with_reducible rfl
  rotate_left
  · simp only [Act.put, zi, zi0, zi1, i64_w, i32_w]
    rfl
  refine zp (i := 11) (N := some 59) (mk_ 12 16) HT_.out ?_
  refine one_ (i := 12) (N := some 60) (mk_ 13 16) rfl rfl (one_of HT_.out (by kernel_rfl)) (by decide) (fun K hK => ?_)
  refine value_ (w1 := W1.alloc (.cells #[.int .i64 (cards_card2.spanAt l0 x.1).f0, .int .i64 (cards_card2.spanAt l0 x.1).f1, .int .i64 (cards_card2.spanAt l0 x.1).f2] 48)) (v := .slice (some ⟨W1.heap.size, 0, none⟩) 1 1) (by rfl) rfl ?_ ?_
  · go_simp
    try rfl
  refine hK.out _ _ ⟨(blk_cell (blk_alloc h1_ _) 7).trans rfl, cellB _ _ (below_alloc h4_ _) be0, cellB _ _ (below_alloc h4_ _) be1, cellB _ _ (below_alloc h4_ _) be2⟩ (fun hHeld => ?_)
  clear hK K
  refine zn (some 60) ?_
  refine one_ (i := 13) (N := some 61) (mk_ 14 16) rfl rfl (one_of HT_.out (by kernel_rfl)) (by decide) (fun K hK => ?_)
  refine Kd.R_append_step k48 (w0 := w) w.heap.size (by rfl) (.tmp 49) (.tmp 60) 23 48 (.agg #[.int .i64 0, .int .i64 0, .int .i64 0]) 24 rfl Try.underlying23 cards_card2.info48 rfl (by decide) (by omega) v7 (pre.map (fun x => cards_card2.spanAt l0 x.1)) (cards_card2.spanAt l0 x.1) [.int .i64 (cards_card2.spanAt l0 x.1).f0, .int .i64 (cards_card2.spanAt l0 x.1).f1, .int .i64 (cards_card2.spanAt l0 x.1).f2] (fun _ => True) (fun _ => False) rfl rfl (k48_mkM _ _ _ _) (fun _ h => h.elim) (fun _ _ => trivial) h2_ h4_ h4_.size (by rw [List.length_map]; omega) ?_
  intro v8 w8 ho hb hg hat
  have g1 : w8.heap[gb247]? = some (.cells #[.int .i64 (rd l0 0), .int .i64 (rd l0 1), .int .i64 (rd l0 2), .int .i64 (rd l0 3), .slice none 0 0, .int .i64 0, .int .i64 0, v7, .int .i64 0] 25 (0, 0)) := blk_grown h1_ hg (fun e => Kd.R_ne h2_ h1_ (by decide) e)
  have g3 : w8.heap[gb242]? = _ := blk_grown h3_ hg (fun e => Kd.R_ne h2_ h3_ (by decide) e)
  have g5 : w8.heap[w27.heap.size]? = _ := blk_grown h5_ hg (fun e => Kd.R_ne h2_ h5_ (by decide) e)
  have g6 : w8.heap[w27.heap.size + 1]? = _ := blk_grown h6_ hg (fun e => Kd.R_ne h2_ h6_ (by decide) e)
  refine hK.out _ _ ⟨(blk_cell g1 7).trans rfl, cellB _ _ hb be0, cellB _ _ hb be1, cellB _ _ hb be2⟩ (fun hHeld => ?_)
  clear hK K
  refine zn (some 61) ?_
  refine zp (i := 14) (N := some 62) (mk_ 15 16) HT_.out ?_
  obtain ⟨A8, c8, e8⟩ := Kd.R_slice ho
  subst e8
  refine last_ (i := 15) (N := none) (mk_ 16 16) rfl rfl (one_of HT_.out (by kernel_rfl)) (by decide) (fun K hK => ?_)
  have hs15 : w8.cell? ⟨gb247, 7, none⟩ = some v7 := (blk_cell g1 7).trans rfl
  have hfs15 := blk_frozen g1 7
  refine skip_ (w1 := ?_) (by rfl) rfl ?_ ?_
  rotate_left
  · go_simp
    rfl
  refine hK.out _ _ ?_
  clear hK K
  refine done_ (done_of HT_.out (by kernel_rfl)) ?_
  refine ⟨?_, ?_, ⟨⟨_, blk_put g1 7 _ rfl, ?_⟩, blk_far g3 (fun e => NB242_247.out e) _, blk_far g5 (fun e => by have e2 : w27.heap.size = gb247 := e; omega) _, blk_far g6 (fun e => by have e2 : w27.heap.size + 1 = gb247 := e; omega) _, below_set hb GE247.out⟩⟩
  · exact ((((KeepsOthers.drew W).trans (hW1 ▸ cards_card2.keeps_row h2_ hg)).trans (KeepsOthers.setCell _ _ _))).from _
  · intro k hk o hko
    rcases hk with rfl | rfl
    · rw [h5w] at hko
      cases hko
      exact blk_far g5 (fun e => by have e2 : w27.heap.size = gb247 := e; omega) _
    · rw [h6w] at hko
      cases hko
      exact blk_far g6 (fun e => by have e2 : w27.heap.size + 1 = gb247 := e; omega) _
  · rw [List.map_append]
    rw [show (pre.map (fun x => cards_card2.spanAt l0 x.1) ++ [cards_card2.spanAt l0 x.1]).length = pre.length + 1 from by simp] at ho
    exact Kd.R_mono (Kd.R_far (Kd.R_types ho g1 (by decide)) (fun _ hk => hk.2) _) (fun _ _ => trivial)
 case done =>
  rintro D xs W hD rfl ⟨⟨v7, h1_, h2_⟩, h3_, h5_, h6_, h4_⟩ hK
  obtain ⟨a14, ea14, x14⟩ := Kd.at_int HR0.out 14 (by omega) (by omega)
  obtain rfl : ad243 = a14 := (by injection ea14)
  rw [show (14 : Int).toNat = 14 from rfl, cards_card2.add_pos _ (by omega)] at x14
  replace x14 : W.cell? ⟨ad243.block, ad243.off + 4 + 10, none⟩ = some (.int .i64 (rd l0 14)) := by rw [show ad243.off + 4 + 10 = ad243.off + 14 from by omega]; exact (h4_.cell (World.block_lt_of_cell? w _ x14)).trans x14
  obtain ⟨A7, c7, e7⟩ := Kd.R_slice h2_
  subst e7
  obtain ⟨hcz26_0, hcz26_1, hcz26_2, hcz26_3, hcz26_4, hcz26_5, hcz26_6, hcz26_7, hcz26_8⟩ := cells9 h1_
  obtain ⟨hfz26_0, hfz26_1, hfz26_2, hfz26_3, hfz26_4, hfz26_5, hfz26_6, hfz26_7, hfz26_8⟩ := frozen9 h1_
  obtain ⟨hcz27_0, hcz27_1, hcz27_2, hcz27_3, hcz27_4, hcz27_5, hcz27_6, hcz27_7, hcz27_8⟩ := cells9 h3_
  obtain ⟨hfz27_0, hfz27_1, hfz27_2, hfz27_3, hfz27_4, hfz27_5, hfz27_6, hfz27_7, hfz27_8⟩ := frozen9 h3_
  have hnb25 := NB247_242.out
  have hnc25 := NB242_247.out
  go_wp2
  have h1f := blk_put h1_ 8 (.int .i64 (rd l0 14)) (cs' := #[.int .i64 (rd l0 0), .int .i64 (rd l0 1), .int .i64 (rd l0 2), .int .i64 (rd l0 3), .slice none 0 0, .int .i64 0, .int .i64 0, .slice A7 ((cards_card2.upTo m m).map fun x => cards_card2.spanAt l0 x.1).length c7, .int .i64 (rd l0 14)]) rfl
  have h3f := put9 (blk_far h3_ (fun e => NB242_247.out e) (p := ⟨gb247, 8, none⟩) (.int .i64 (rd l0 14))) rfl (u0 := .int .i64 (rd l0 0)) (u1 := .int .i64 (rd l0 1)) (u2 := .int .i64 (rd l0 2)) (u3 := .int .i64 (rd l0 3)) (u4 := .slice none 0 0) (u5 := .int .i64 0) (u6 := .int .i64 0) (u7 := .slice A7 ((cards_card2.upTo m m).map fun x => cards_card2.spanAt l0 x.1).length c7) (u8 := .int .i64 (rd l0 14))
  have h2f := Kd.R_mono (Kd.R_far9 (g := gb242) (Kd.R_far (p := ⟨gb247, 8, none⟩) (Kd.R_types (Kd.R_types h2_ h1_ (by decide)) h3_ (by decide)) (fun _ hk => hk.1.2) (.int .i64 (rd l0 14))) (fun _ hk => hk.2) (u0 := .int .i64 (rd l0 0)) (u1 := .int .i64 (rd l0 1)) (u2 := .int .i64 (rd l0 2)) (u3 := .int .i64 (rd l0 3)) (u4 := .slice none 0 0) (u5 := .int .i64 0) (u6 := .int .i64 0) (u7 := .slice A7 ((cards_card2.upTo m m).map fun x => cards_card2.spanAt l0 x.1).length c7) (u8 := .int .i64 (rd l0 14))) (fun _ _ => trivial : ∀ k, _ → (fun _ => True) k)
  have hlm : ((cards_card2.upTo m m).map fun x => cards_card2.spanAt l0 x.1) = (List.range m).map (cards_card2.spanAt l0) := cards_card2.upTo_map m (cards_card2.spanAt l0)
  have hln : ((cards_card2.upTo m m).map fun x => cards_card2.spanAt l0 x.1).length = (cards_card2.upTo m m).length := List.length_map _
  rw [hln] at h3f h2f
  have h4f : Below w.heap.size w ((((((((((W.setCell ⟨gb247, 8, none⟩ (.int .i64 (rd l0 14))).setCell ⟨gb242, 0, none⟩ (.int .i64 (rd l0 0))).setCell ⟨gb242, 1, none⟩ (.int .i64 (rd l0 1))).setCell ⟨gb242, 2, none⟩ (.int .i64 (rd l0 2))).setCell ⟨gb242, 3, none⟩ (.int .i64 (rd l0 3))).setCell ⟨gb242, 4, none⟩ (.slice none 0 0)).setCell ⟨gb242, 5, none⟩ (.int .i64 0)).setCell ⟨gb242, 6, none⟩ (.int .i64 0)).setCell ⟨gb242, 7, none⟩ (.slice A7 (cards_card2.upTo m m).length c7)).setCell ⟨gb242, 8, none⟩ (.int .i64 (rd l0 14))) :=
   below_set (below_set (below_set (below_set (below_set (below_set (below_set (below_set (below_set (below_set h4_ GE247.out) GE242.out) GE242.out) GE242.out) GE242.out) GE242.out) GE242.out) GE242.out) GE242.out) GE242.out
  have hKf : ((((((((((W.setCell ⟨gb247, 8, none⟩ (.int .i64 (rd l0 14))).setCell ⟨gb242, 0, none⟩ (.int .i64 (rd l0 0))).setCell ⟨gb242, 1, none⟩ (.int .i64 (rd l0 1))).setCell ⟨gb242, 2, none⟩ (.int .i64 (rd l0 2))).setCell ⟨gb242, 3, none⟩ (.int .i64 (rd l0 3))).setCell ⟨gb242, 4, none⟩ (.slice none 0 0)).setCell ⟨gb242, 5, none⟩ (.int .i64 0)).setCell ⟨gb242, 6, none⟩ (.int .i64 0)).setCell ⟨gb242, 7, none⟩ (.slice A7 (cards_card2.upTo m m).length c7)).setCell ⟨gb242, 8, none⟩ (.int .i64 (rd l0 14))).heap[D]? = some (.deferred (some [])) :=
   (KeepsOthers.setCell _ _ _).same D _ ((KeepsOthers.setCell _ _ _).same D _ ((KeepsOthers.setCell _ _ _).same D _ ((KeepsOthers.setCell _ _ _).same D _ ((KeepsOthers.setCell _ _ _).same D _ ((KeepsOthers.setCell _ _ _).same D _ ((KeepsOthers.setCell _ _ _).same D _ ((KeepsOthers.setCell _ _ _).same D _ ((KeepsOthers.setCell _ _ _).same D _ ((KeepsOthers.setCell _ _ _).same D _ hK rfl) rfl) rfl) rfl) rfl) rfl) rfl) rfl) rfl) rfl
  generalize ((((((((((W.setCell ⟨gb247, 8, none⟩ (.int .i64 (rd l0 14))).setCell ⟨gb242, 0, none⟩ (.int .i64 (rd l0 0))).setCell ⟨gb242, 1, none⟩ (.int .i64 (rd l0 1))).setCell ⟨gb242, 2, none⟩ (.int .i64 (rd l0 2))).setCell ⟨gb242, 3, none⟩ (.int .i64 (rd l0 3))).setCell ⟨gb242, 4, none⟩ (.slice none 0 0)).setCell ⟨gb242, 5, none⟩ (.int .i64 0)).setCell ⟨gb242, 6, none⟩ (.int .i64 0)).setCell ⟨gb242, 7, none⟩ (.slice A7 (cards_card2.upTo m m).length c7)).setCell ⟨gb242, 8, none⟩ (.int .i64 (rd l0 14))) = Wf at h3f h2f h4f hKf ⊢
  have hgp := grownBy_putObj' Wf D (.deferred none)
  have hrow : ∀ r, some D = some r → ∃ o : Obj, Wf.heap[r]? = some o ∧ o.isCells = false := fun r e => by cases e; exact ⟨_, hKf, rfl⟩
  have h3g := blk_grown h3f hgp (fun e => by have e2 : gb242 = D := Option.some.inj e; rw [e2, hKf] at h3f; cases h3f)
  have h2g := cards_card2.R_own h2f hgp hrow
  have h4g := h4f.grown hgp h4f.size (fun r e => by cases e; exact Nat.le_trans HB0.size hD)
  show LeavesInM Fence.wide 9 Try.prog Try.f36 _ _ _ .returning Wf
  refine ⟨by simp, .inl ⟨_, _, rfl, run_takeDeferred hKf, ?_⟩⟩
  refine ⟨_, results_cell_row rfl _ _ gb242 25 _ (0, 0) _ rfl h3g hu25 rfl (by kernel_rfl), ?_⟩
  rw [hlm] at h2g
  exact ⟨_, rfl, h2g, h4g⟩
end
def cards_card.f (l0 : List Int) : Option (Int × Int × Int × Int × List Int × Int × Int × (List (S48)) × Int) := if rd l0 0 = 1 then cards_card1.f l0 else (if l0.length = 15 then (if 0 ≤ rd l0 4 then some (rd l0 0, rd l0 1, rd l0 2, rd l0 3, [], 0, 0, (List.range (min (rd l0 4) 3).toNat).map (cards_card2.spanAt l0), rd l0 14) else none) else none)
theorem cards_card.calls (A0 : Option Addr) (c0 : Nat) (l0 : List Int) (r1 : Int) (r2 : Int) (r3 : Int) (r4 : Int) (r5 : List Int) (r6 : Int) (r7 : Int) (r8 : List (S48)) (r9 : Int) (w : World) (hr0 : Kd.C (Kd.int .i64) w A0 l0.length l0) (hc0 : l0.length ≤ c0) (h : cards_card.f l0 = some (r1, r2, r3, r4, r5, r6, r7, r8, r9)) :
 Calls Try.prog 36 #[.slice A0 l0.length c0] w fun e w' => ∃ v4_ v7_ : Value, e = .returned (.agg #[.int .i64 r1, .int .i64 r2, .int .i64 r3, .int .i64 r4, v4_, .int .i64 r6, .int .i64 r7, v7_, .int .i64 r9]) ∧ Kd.R (Kd.int .i64) 3 w' w.heap.size (fun _ => True) v4_ r5 ∧ Kd.R k48 48 w' w.heap.size (fun _ => True) v7_ r8 ∧ Below w.heap.size w w' := by
 unfold cards_card.f at h
 by_cases h1 : rd l0 0 = 1
 · rw [if_pos h1] at h
   exact cards_card1.calls A0 c0 l0 r1 r2 r3 r4 r5 r6 r7 r8 r9 w hr0 hc0 h
 · rw [if_neg h1] at h
   by_cases h2 : l0.length = 15
   · rw [if_pos h2] at h
     by_cases h3 : 0 ≤ rd l0 4
     · rw [if_pos h3] at h
       simp only [Option.some.injEq, Prod.mk.injEq] at h
       obtain ⟨rfl, rfl, rfl, rfl, rfl, rfl, rfl, rfl, rfl⟩ := h
       refine (cards_card2.card_two A0 c0 l0 (min (rd l0 4) 3).toNat w hr0 hc0 h2 h1 (by omega)).mono ?_
       rintro e w' ⟨v7, rfl, hR, hb⟩
       exact ⟨_, _, rfl, Kd.R_nil _ _ _ _ _, hR, hb⟩
     · rw [if_neg h3] at h
       cases h
   · rw [if_neg h2] at h
     cases h
end Go.Proofs.Ytgigoogekimgkaa.GCrd
