/- printed for this claim by gprint.py, a program of this session, that drives the kit's printer. -/
import Derived.Test.YtgigoogekimgkaaGCrdx0
import Derived.Test.YtgigoogekimgkaaZ
import Derived.Test.YtgigoogekimgkaaGCrdx11
import Derived.Test.YtgigoogekimgkaaGCrdx12
import Derived.Test.YtgigoogekimgkaaCRRef
namespace Go.Proofs.Ytgigoogekimgkaa.GCrd
open Go.RowKit Go.Proofs.YtgigoogekimgkaaW.PrintWords Go.Proofs.YtgigoogekimgkaaW.PrintLast Go.Proofs.YtgigoogekimgkaaW.PrintMore
attribute [local go_sem] max2_int min2_int max_two min_two max_three min_three max_four min_four   -- for this text's walks alone
set_option linter.unusedVariables false
set_option linter.unusedSimpArgs false

/-! ### lw_CardsRead: function 4 -/
def lw_CardsRead.f (k : Nat) (a0 : ByteArray) : Option (Bool) := (lw_lives.f k).bind fun t319 => (if t319 = true then ((cards_Read.f k a0).bind fun bt320 => ((r9_Read.f k a0).bind fun bt335 => (if bt320.2.2.2.2.2.2.2.2.2 = bt335.2.2.2.2.2.2.2.2.2 then ((r9_Same.f k bt320.1 bt320.2.1 bt320.2.2.1 bt320.2.2.2.1 bt320.2.2.2.2.1 bt320.2.2.2.2.2.1 bt320.2.2.2.2.2.2.1 bt320.2.2.2.2.2.2.2.1 bt320.2.2.2.2.2.2.2.2.1 bt335.1 bt335.2.1 bt335.2.2.1 bt335.2.2.2.1 bt335.2.2.2.2.1 bt335.2.2.2.2.2.1 bt335.2.2.2.2.2.2.1 bt335.2.2.2.2.2.2.2.1 bt335.2.2.2.2.2.2.2.2.1).bind fun t350 => (some t350)) else (some false)))) else (some false))
theorem lw_CardsRead.mono : ∀ a0 k, LeO (lw_CardsRead.f k a0) (lw_CardsRead.f (k + 1) a0) := by
 intro a0 k
 unfold lw_CardsRead.f
 repeat' first
  | (with_reducible exact cards_Read.mono _ _)
  | (with_reducible exact lw_lives.mono _)
  | (with_reducible exact r9_Read.mono _ _)
  | (with_reducible exact r9_Same.mono _ _ _ _ _ _ _ _ _ _ _ _ _ _ _ _ _ _ _)
  | (with_reducible exact LeO.refl _)
  | (with_reducible exact LeO.none _)
  | (with_reducible refine LeO.ite ?_ ?_)
  | (with_reducible refine LeO.bind ?_ (fun _ => ?_))
  | exact cards_Read.mono _ _
  | exact lw_lives.mono _
  | exact r9_Read.mono _ _
  | exact r9_Same.mono _ _ _ _ _ _ _ _ _ _ _ _ _ _ _ _ _ _ _
  | exact LeO.none _
  | refine LeO.ite ?_ ?_
  | refine LeO.bind ?_ (fun _ => ?_)
set_option maxHeartbeats 8000000 in
set_option maxRecDepth 100000 in
theorem lw_CardsRead.calls (k : Nat) (a0 : ByteArray) (r : Bool) (w : World) (h : lw_CardsRead.f k a0 = some r) :
 Calls Try.prog 4 #[.string a0] w fun e w' => e = .returned (.bool r) ∧ Below w.heap.size w w' := by
 have hu25 := Try.underlying25
 have HB := Aside0.mk (Below.refl w.heap.size w)
 have H : ((lw_lives.f k).bind fun t319 => (if t319 = true then ((cards_Read.f k a0).bind fun bt320 => ((r9_Read.f k a0).bind fun bt335 => (if bt320.2.2.2.2.2.2.2.2.2 = bt335.2.2.2.2.2.2.2.2.2 then ((r9_Same.f k bt320.1 bt320.2.1 bt320.2.2.1 bt320.2.2.2.1 bt320.2.2.2.2.1 bt320.2.2.2.2.2.1 bt320.2.2.2.2.2.2.1 bt320.2.2.2.2.2.2.2.1 bt320.2.2.2.2.2.2.2.2.1 bt335.1 bt335.2.1 bt335.2.2.1 bt335.2.2.2.1 bt335.2.2.2.2.1 bt335.2.2.2.2.2.1 bt335.2.2.2.2.2.2.1 bt335.2.2.2.2.2.2.2.1 bt335.2.2.2.2.2.2.2.2.1).bind fun t350 => (some t350)) else (some false)))) else (some false))) = some r := h
 clear h
 replace H := Option.bind_eq_some_iff.mp H
 obtain ⟨tq0, Aq0z, H⟩ := H
 have Aq0 := Aside0.mk Aq0z
 clear Aq0z
 by_cases c3 : tq0 = true
 all_goals (first
  | (skip
     subst c3
     rw [if_pos rfl] at H
     replace H := Option.bind_eq_some_iff.mp H
     obtain ⟨⟨t320, t321, t322, t323, t324, t327, t328, t329, t332, t333⟩, A40, H⟩ := H
     replace H : ((r9_Read.f k a0).bind fun bt335 => (if t333 = bt335.2.2.2.2.2.2.2.2.2 then ((r9_Same.f k t320 t321 t322 t323 t324 t327 t328 t329 t332 bt335.1 bt335.2.1 bt335.2.2.1 bt335.2.2.2.1 bt335.2.2.2.2.1 bt335.2.2.2.2.2.1 bt335.2.2.2.2.2.2.1 bt335.2.2.2.2.2.2.2.1 bt335.2.2.2.2.2.2.2.2.1).bind fun t350 => (some t350)) else (some false))) = some r := H
     have A4 := Aside0.mk A40
     clear A40
     replace H := Option.bind_eq_some_iff.mp H
     obtain ⟨⟨t335, t336, t337, t338, t339, t342, t343, t344, t347, t348⟩, A50, H⟩ := H
     replace H : (if t333 = t348 then ((r9_Same.f k t320 t321 t322 t323 t324 t327 t328 t329 t332 t335 t336 t337 t338 t339 t342 t343 t344 t347).bind fun t350 => (some t350)) else (some false)) = some r := H
     have A5 := Aside0.mk A50
     clear A50
     by_cases c6 : t333 = t348
     all_goals (first
      | (skip
         rw [if_pos c6] at H
         have c6b0 : (t333 == t348) = true := beq_iff_eq.mpr c6
         have c6b1 : (t333 != t348) = false := bne_eq_false_iff_eq.mpr c6
         clear c6
         replace H := Option.bind_eq_some_iff.mp H
         obtain ⟨tq1, Aq1z, H⟩ := H
         have Aq1 := Aside0.mk Aq1z
         clear Aq1z
         obtain rfl := Option.some.inj H
         have C0_ : True := trivial
         have S0_ : True := trivial)
      | (skip
         rw [if_neg c6] at H
         have c6b0 : (t333 == t348) = false := beq_eq_false_iff_ne.mpr c6
         have c6b1 : (t333 != t348) = true := bne_iff_ne.mpr c6
         obtain rfl := Option.some.inj H
         have C0_ : True := trivial
         have S0_ : True := trivial)))
  | (skip
     replace c3 := Bool.eq_false_iff.mpr c3
     subst c3
     rw [if_neg (show ¬ (false = true) by decide)] at H
     obtain rfl := Option.some.inj H
     have C0_ : True := trivial
     have S1_ : True := trivial))
 all_goals (
  first
  | (have _ := C0_
     go_enter Try.func4, Try.ntmps4
     go_wp2_with (first | ((with_reducible refine gate_callee (f := 8) rfl ?_); refine zgl (some 7) Try.func8 #[] ?_; (with_reducible refine (lw_lives.calls k  _ _ Aq0.out).mono ?_); rintro e wq7 ⟨rfl, hb⟩; refine ⟨_, rfl, ?_⟩; replace HB := Aside0.mk (below_step (zh0 HB.out) hb); (try clear hb); (try clear hb2); (try clear hk); (try clear hi)) | ((with_reducible refine gate_callee (f := 13) rfl ?_); refine zgl (some 11) Try.func13 #[.string a0] ?_; (with_reducible refine (cards_Read.calls k a0 t320 t321 t322 t323 t324 t327 t328 t329 t332 t333 _ A4.out).mono ?_); rintro e wq11 ⟨vq11, vq11x3, rfl, hoq11, hoq11x5, hb⟩; refine ⟨_, rfl, ?_⟩; have HO326 := Aside0.mk (Kd.R_lower hoq11 (below_size (zh0 HB.out))); have HO331 := Aside0.mk (Kd.R_lower hoq11x5 (below_size (zh0 HB.out))); replace HB := Aside0.mk (below_step (zh0 HB.out) hb); (try clear hb); (try clear hb2); (try clear hk); (try clear hi); (try clear hoq11); (try clear hoq11x5)) | ((with_reducible refine gate_dst (N := 3) rfl ?_); refine zbx (N := 3) (cs := #[.int .i64 0, .int .i64 0, .int .i64 0, .int .i64 0, .slice none 0 0, .int .i64 0, .int .i64 0, .slice none 0 0, .int .i64 0]) (t := 25) ?_; intro gb334 hg wq3 hbox hb; replace HO326 := Aside0.mk (zR HO326.out hb); replace HO331 := Aside0.mk (zR HO331.out hb); have BK334 := Aside0.mk (hbox); have GW334 := Aside0.mk ((by rw [hg]; exact (below_size (zh0 HB.out)) : w.heap.size ≤ gb334)); have GE334 := GW334; replace HB := Aside0.mk (below_step (zh0 HB.out) hb); clear hb hbox hg; obtain ⟨hczq3_0, hczq3_1, hczq3_2, hczq3_3, hczq3_4, hczq3_5, hczq3_6, hczq3_7, hczq3_8⟩ := cells9 BK334.out; obtain ⟨hfzq3_0, hfzq3_1, hfzq3_2, hfzq3_3, hfzq3_4, hfzq3_5, hfzq3_6, hfzq3_7, hfzq3_8⟩ := frozen9 BK334.out; obtain ⟨Aoq3, coq3, eoq3⟩ := Kd.R_slice HO326.out; subst eoq3; obtain ⟨Aoq3x10, coq3x11, eoq3x12⟩ := Kd.R_slice HO331.out; subst eoq3x12) | ((with_reducible refine gate_callee (f := 14) rfl ?_); refine zgl (some 16) Try.func14 #[.string a0] ?_; (with_reducible refine (r9_Read.calls k a0 t335 t336 t337 t338 t339 t342 t343 t344 t347 t348 _ A5.out).mono ?_); rintro e wq16 ⟨vq16, vq16x33, rfl, hoq11, hoq11x5, hb⟩; refine ⟨_, rfl, ?_⟩; have HO341 := Aside0.mk (Kd.R_lower (Kd.R_new' hoq11 (Kd.R_lt (by (with_reducible repeat (first | apply Kd.R_alloc | apply Kd.R_drewN | apply Kd.R_drew)); exact (Kd.R_mono (Kd.R_far9 (g := gb334) (Kd.R_types HO326.out BK334.out (by decide)) (fun _ hk => hk.2)) (fun _ h_ => h_.1))))) (below_size (zh1 HB.out GE334.out))); replace HO326 := Aside0.mk (Kd.R_elder' (by (with_reducible repeat (first | apply Kd.R_alloc | apply Kd.R_drewN | apply Kd.R_drew)); exact (Kd.R_mono (Kd.R_far9 (g := gb334) (Kd.R_types HO326.out BK334.out (by decide)) (fun _ hk => hk.2)) (fun _ h_ => h_.1))) (Kd.R_base hoq11) hb); have HO346 := Aside0.mk (Kd.R_lower (Kd.R_new' hoq11x5 (Kd.R_lt (by (with_reducible repeat (first | apply Kd.R_alloc | apply Kd.R_drewN | apply Kd.R_drew)); exact (Kd.R_mono (Kd.R_far9 (g := gb334) (Kd.R_types HO331.out BK334.out (by decide)) (fun _ hk => hk.2)) (fun _ h_ => h_.1))))) (below_size (zh1 HB.out GE334.out))); replace HO331 := Aside0.mk (Kd.R_elder' (by (with_reducible repeat (first | apply Kd.R_alloc | apply Kd.R_drewN | apply Kd.R_drew)); exact (Kd.R_mono (Kd.R_far9 (g := gb334) (Kd.R_types HO331.out BK334.out (by decide)) (fun _ hk => hk.2)) (fun _ h_ => h_.1))) (Kd.R_base hoq11x5) hb); replace BK334 := Aside0.mk (blk_below (g := gb334) (o := .cells #[.int .i64 t320, .int .i64 t321, .int .i64 t322, .int .i64 t323, .slice Aoq3 t324.length coq3, .int .i64 t327, .int .i64 t328, .slice Aoq3x10 t329.length coq3x11, .int .i64 t332] 25 (0, 0)) (by (with_reducible repeat (first | refine blk_drewN ?_ _ | refine blk_drew ?_ | refine blk_alloc ?_ _)); refine put9 (cs := #[.int .i64 0, .int .i64 0, .int .i64 0, .int .i64 0, .slice none 0 0, .int .i64 0, .int .i64 0, .slice none 0 0, .int .i64 0]) ?_ rfl; (with_reducible repeat (first | refine blk_drewN ?_ _ | refine blk_drew ?_ | refine blk_alloc ?_ _)); exact BK334.out) hb); replace HB := Aside0.mk (below_step (zh1 HB.out GE334.out) hb); (try clear hb); (try clear hb2); (try clear hk); (try clear hi); (try clear hoq11); (try clear hoq11x5)) | ((with_reducible refine gate_dst (N := 5) rfl ?_); refine zbx (N := 5) (cs := #[.int .i64 0, .int .i64 0, .int .i64 0, .int .i64 0, .slice none 0 0, .int .i64 0, .int .i64 0, .slice none 0 0, .int .i64 0]) (t := 25) ?_; intro gb349 hg wq5 hbox hb; replace HO326 := Aside0.mk (zR HO326.out hb); replace HO331 := Aside0.mk (zR HO331.out hb); replace HO341 := Aside0.mk (zR HO341.out hb); replace HO346 := Aside0.mk (zR HO346.out hb); have BK349 := Aside0.mk (hbox); have GW349 := Aside0.mk ((by rw [hg]; exact (below_size (zh1 HB.out GE334.out)) : w.heap.size ≤ gb349)); have GE349 := GW349; replace HB := Aside0.mk (below_step (zh1 HB.out GE334.out) hb); have NB334_349 := Aside0.mk ((by rw [hg]; exact Nat.ne_of_lt (blk_lt (g := gb334) (o := .cells #[.int .i64 t320, .int .i64 t321, .int .i64 t322, .int .i64 t323, .slice Aoq3 t324.length coq3, .int .i64 t327, .int .i64 t328, .slice Aoq3x10 t329.length coq3x11, .int .i64 t332] 25 (0, 0)) (zb BK334.out)) : gb334 ≠ gb349)); have NB349_334 := Aside0.mk ((by rw [hg]; exact Nat.ne_of_gt (blk_lt (g := gb334) (o := .cells #[.int .i64 t320, .int .i64 t321, .int .i64 t322, .int .i64 t323, .slice Aoq3 t324.length coq3, .int .i64 t327, .int .i64 t328, .slice Aoq3x10 t329.length coq3x11, .int .i64 t332] 25 (0, 0)) (zb BK334.out)) : gb349 ≠ gb334)); replace BK334 := Aside0.mk (zB BK334.out hb); clear hb hbox hg; have hnbq5 := NB349_334.out; have hncq5 := NB334_349.out; obtain ⟨hczq5_0, hczq5_1, hczq5_2, hczq5_3, hczq5_4, hczq5_5, hczq5_6, hczq5_7, hczq5_8⟩ := cells9 BK349.out; obtain ⟨hfzq5_0, hfzq5_1, hfzq5_2, hfzq5_3, hfzq5_4, hfzq5_5, hfzq5_6, hfzq5_7, hfzq5_8⟩ := frozen9 BK349.out; obtain ⟨Aoq5, coq5, eoq5⟩ := Kd.R_slice HO341.out; subst eoq5; obtain ⟨Aoq5x39, coq5x40, eoq5x41⟩ := Kd.R_slice HO346.out; subst eoq5x41; have hczq5x62_0 : wq5.cell? ⟨gb334, 0, none⟩ = some (.int .i64 t320) := (blk_cell BK334.out 0).trans rfl; have hczq5x63_1 : wq5.cell? ⟨gb334, 1, none⟩ = some (.int .i64 t321) := (blk_cell BK334.out 1).trans rfl; have hczq5x64_2 : wq5.cell? ⟨gb334, 2, none⟩ = some (.int .i64 t322) := (blk_cell BK334.out 2).trans rfl; have hczq5x65_3 : wq5.cell? ⟨gb334, 3, none⟩ = some (.int .i64 t323) := (blk_cell BK334.out 3).trans rfl; have hczq5x66_4 : wq5.cell? ⟨gb334, 4, none⟩ = some (.slice Aoq3 t324.length coq3) := (blk_cell BK334.out 4).trans rfl; have hczq5x67_5 : wq5.cell? ⟨gb334, 5, none⟩ = some (.int .i64 t327) := (blk_cell BK334.out 5).trans rfl; have hczq5x68_6 : wq5.cell? ⟨gb334, 6, none⟩ = some (.int .i64 t328) := (blk_cell BK334.out 6).trans rfl; have hczq5x69_7 : wq5.cell? ⟨gb334, 7, none⟩ = some (.slice Aoq3x10 t329.length coq3x11) := (blk_cell BK334.out 7).trans rfl; have hczq5x70_8 : wq5.cell? ⟨gb334, 8, none⟩ = some (.int .i64 t332) := (blk_cell BK334.out 8).trans rfl; have hfzq5x71_0 := blk_frozen BK334.out 0; have hfzq5x72_1 := blk_frozen BK334.out 1; have hfzq5x73_2 := blk_frozen BK334.out 2; have hfzq5x74_3 := blk_frozen BK334.out 3; have hfzq5x75_4 := blk_frozen BK334.out 4; have hfzq5x76_5 := blk_frozen BK334.out 5; have hfzq5x77_6 := blk_frozen BK334.out 6; have hfzq5x78_7 := blk_frozen BK334.out 7; have hfzq5x79_8 := blk_frozen BK334.out 8) | ((with_reducible refine gate_dst (N := 5) rfl ?_); refine zbx (N := 5) (cs := #[.int .i64 0, .int .i64 0, .int .i64 0, .int .i64 0, .slice none 0 0, .int .i64 0, .int .i64 0, .slice none 0 0, .int .i64 0]) (t := 25) ?_; intro gb349 hg wq5 hbox hb; replace HO326 := Aside0.mk (zR HO326.out hb); replace HO331 := Aside0.mk (zR HO331.out hb); replace HO341 := Aside0.mk (zR HO341.out hb); replace HO346 := Aside0.mk (zR HO346.out hb); have BK349 := Aside0.mk (hbox); have GW349 := Aside0.mk ((by rw [hg]; exact (below_size (zh1 HB.out GE334.out)) : w.heap.size ≤ gb349)); have GE349 := GW349; replace HB := Aside0.mk (below_step (zh1 HB.out GE334.out) hb); have NB334_349 := Aside0.mk ((by rw [hg]; exact Nat.ne_of_lt (blk_lt (g := gb334) (o := .cells #[.int .i64 t320, .int .i64 t321, .int .i64 t322, .int .i64 t323, .slice Aoq3 t324.length coq3, .int .i64 t327, .int .i64 t328, .slice Aoq3x10 t329.length coq3x11, .int .i64 t332] 25 (0, 0)) (zb BK334.out)) : gb334 ≠ gb349)); have NB349_334 := Aside0.mk ((by rw [hg]; exact Nat.ne_of_gt (blk_lt (g := gb334) (o := .cells #[.int .i64 t320, .int .i64 t321, .int .i64 t322, .int .i64 t323, .slice Aoq3 t324.length coq3, .int .i64 t327, .int .i64 t328, .slice Aoq3x10 t329.length coq3x11, .int .i64 t332] 25 (0, 0)) (zb BK334.out)) : gb349 ≠ gb334)); replace BK334 := Aside0.mk (zB BK334.out hb); clear hb hbox hg; have hnbq5 := NB349_334.out; have hncq5 := NB334_349.out; obtain ⟨hczq5_0, hczq5_1, hczq5_2, hczq5_3, hczq5_4, hczq5_5, hczq5_6, hczq5_7, hczq5_8⟩ := cells9 BK349.out; obtain ⟨hfzq5_0, hfzq5_1, hfzq5_2, hfzq5_3, hfzq5_4, hfzq5_5, hfzq5_6, hfzq5_7, hfzq5_8⟩ := frozen9 BK349.out; obtain ⟨Aoq5, coq5, eoq5⟩ := Kd.R_slice HO341.out; subst eoq5; obtain ⟨Aoq5x39, coq5x40, eoq5x41⟩ := Kd.R_slice HO346.out; subst eoq5x41) | (go_at_call 15; (with_reducible refine (r9_Same.calls k t320 t321 t322 t323 _ _ t324 t327 t328 _ _ t329 t332 t335 t336 t337 t338 _ _ t339 t342 t343 _ _ t344 t347 tq1 _ ?side1 ?side2 ?side3 ?side4 ?side5 ?side6 ?side7 ?side8 Aq1.out).mono ?_); (case side1 => refine (Kd.R_reads' (e := 3) (base := w.heap.size) (ok := fun k_ => (True ∧ some k_ ≠ (.slice Aoq5 t339.length coq5 : Value).ownBlock)) (n := t324.length) (c := coq3) ?_).2.2; exact (by (with_reducible repeat (first | apply Kd.R_alloc | apply Kd.R_drewN | apply Kd.R_drew)); exact (Kd.R_mono (Kd.R_far9 (g := gb349) (Kd.R_types HO326.out BK349.out (by decide)) (fun _ hk => hk.2)) (fun _ h_ => h_.1)))); (case side2 => exact (Kd.R_reads' HO326.out).2.1); (case side3 => refine (Kd.R_reads' (e := 48) (base := w.heap.size) (ok := fun k_ => (True ∧ some k_ ≠ (.slice Aoq5x39 t344.length coq5x40 : Value).ownBlock)) (n := t329.length) (c := coq3x11) ?_).2.2; exact (by (with_reducible repeat (first | apply Kd.R_alloc | apply Kd.R_drewN | apply Kd.R_drew)); exact (Kd.R_mono (Kd.R_far9 (g := gb349) (Kd.R_types HO331.out BK349.out (by decide)) (fun _ hk => hk.2)) (fun _ h_ => h_.1)))); (case side4 => exact (Kd.R_reads' HO331.out).2.1); (case side5 => refine (Kd.R_reads' (e := 3) (base := w.heap.size) (ok := fun k_ => (True ∧ some k_ ≠ (.slice Aoq3 t324.length coq3 : Value).ownBlock)) (n := t339.length) (c := coq5) ?_).2.2; exact (by (with_reducible repeat (first | apply Kd.R_alloc | apply Kd.R_drewN | apply Kd.R_drew)); exact (Kd.R_mono (Kd.R_far9 (g := gb349) (Kd.R_types HO341.out BK349.out (by decide)) (fun _ hk => hk.2)) (fun _ h_ => h_.1)))); (case side6 => exact (Kd.R_reads' HO341.out).2.1); (case side7 => refine (Kd.R_reads' (e := 48) (base := w.heap.size) (ok := fun k_ => (True ∧ some k_ ≠ (.slice Aoq3x10 t329.length coq3x11 : Value).ownBlock)) (n := t344.length) (c := coq5x40) ?_).2.2; exact (by (with_reducible repeat (first | apply Kd.R_alloc | apply Kd.R_drewN | apply Kd.R_drew)); exact (Kd.R_mono (Kd.R_far9 (g := gb349) (Kd.R_types HO346.out BK349.out (by decide)) (fun _ hk => hk.2)) (fun _ h_ => h_.1)))); (case side8 => exact (Kd.R_reads' HO346.out).2.1); rintro e wqgo_at_call15with_red ⟨rfl, hb⟩; replace HO326 := Aside0.mk (Kd.R_below (by (with_reducible repeat (first | apply Kd.R_alloc | apply Kd.R_drewN | apply Kd.R_drew)); exact (Kd.R_mono (Kd.R_far9 (g := gb349) (Kd.R_types HO326.out BK349.out (by decide)) (fun _ hk => hk.2)) (fun _ h_ => h_.1))) hb); replace HO331 := Aside0.mk (Kd.R_below (by (with_reducible repeat (first | apply Kd.R_alloc | apply Kd.R_drewN | apply Kd.R_drew)); exact (Kd.R_mono (Kd.R_far9 (g := gb349) (Kd.R_types HO331.out BK349.out (by decide)) (fun _ hk => hk.2)) (fun _ h_ => h_.1))) hb); replace HO341 := Aside0.mk (Kd.R_below (by (with_reducible repeat (first | apply Kd.R_alloc | apply Kd.R_drewN | apply Kd.R_drew)); exact (Kd.R_mono (Kd.R_far9 (g := gb349) (Kd.R_types HO341.out BK349.out (by decide)) (fun _ hk => hk.2)) (fun _ h_ => h_.1))) hb); replace HO346 := Aside0.mk (Kd.R_below (by (with_reducible repeat (first | apply Kd.R_alloc | apply Kd.R_drewN | apply Kd.R_drew)); exact (Kd.R_mono (Kd.R_far9 (g := gb349) (Kd.R_types HO346.out BK349.out (by decide)) (fun _ hk => hk.2)) (fun _ h_ => h_.1))) hb); replace BK334 := Aside0.mk (blk_below (g := gb334) (o := .cells #[.int .i64 t320, .int .i64 t321, .int .i64 t322, .int .i64 t323, .slice Aoq3 t324.length coq3, .int .i64 t327, .int .i64 t328, .slice Aoq3x10 t329.length coq3x11, .int .i64 t332] 25 (0, 0)) (by (with_reducible repeat (first | refine blk_drewN ?_ _ | refine blk_drew ?_ | refine blk_alloc ?_ _)); refine far9 ?_ NB334_349.out; (with_reducible repeat (first | refine blk_drewN ?_ _ | refine blk_drew ?_ | refine blk_alloc ?_ _)); exact BK334.out) hb); replace BK349 := Aside0.mk (blk_below (g := gb349) (o := .cells #[.int .i64 t335, .int .i64 t336, .int .i64 t337, .int .i64 t338, .slice Aoq5 t339.length coq5, .int .i64 t342, .int .i64 t343, .slice Aoq5x39 t344.length coq5x40, .int .i64 t347] 25 (0, 0)) (by (with_reducible repeat (first | refine blk_drewN ?_ _ | refine blk_drew ?_ | refine blk_alloc ?_ _)); refine put9 (cs := #[.int .i64 0, .int .i64 0, .int .i64 0, .int .i64 0, .slice none 0 0, .int .i64 0, .int .i64 0, .slice none 0 0, .int .i64 0]) ?_ rfl; (with_reducible repeat (first | refine blk_drewN ?_ _ | refine blk_drew ?_ | refine blk_alloc ?_ _)); exact BK349.out) hb); replace HB := Aside0.mk (below_step (zh2 HB.out GE334.out GE349.out) hb); (try clear hb); (try clear hb2); (try clear hk); (try clear hi)))
     first
     | (have _ := S0_
        go_ret
        exact ⟨ze, zh2 HB.out GE334.out GE349.out⟩)
     | (have _ := S1_
        go_ret
        exact ⟨ze, zh0 HB.out⟩)))

/-- THE ONE PURE STATEMENT of lw_CardsRead: yours. -/
def lw_CardsRead.Pure : Prop := ∀ (a0 : ByteArray), a0.size ≤ 140737488351232 → ∃ k, lw_CardsRead.f k a0 = some true
theorem lw_CardsRead.walk (P : lw_CardsRead.Pure) (a0 : ByteArray) (w : World) (w0 : a0.size ≤ 140737488351232) :
 Calls Try.prog 4 #[.string a0] w fun e w' => e = .returned (.bool true) ∧ Below w.heap.size w w' := by
 obtain ⟨k, h⟩ := P a0 w0
 refine (lw_CardsRead.calls k a0 true w h).mono ?_
 rintro e w' ⟨rfl, hd⟩
 exact ⟨rfl, hd⟩

end Go.Proofs.Ytgigoogekimgkaa.GCrd
