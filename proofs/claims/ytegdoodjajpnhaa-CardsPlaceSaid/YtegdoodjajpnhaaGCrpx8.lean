/- printed for this claim by gprint.py, a program of this session, that drives the kit's printer. -/
import Derived.Test.YtegdoodjajpnhaaGCrpx0
import Derived.Test.YtegdoodjajpnhaaGCrpx2
import Derived.Test.YtegdoodjajpnhaaGCrpx3
import Derived.Test.YtegdoodjajpnhaaGCrpx5
import Derived.Test.YtegdoodjajpnhaaGCrpx7
namespace Go.Proofs.Ytegdoodjajpnhaa.GCrp
open Go.RowKit Go.Proofs.YtegdoodjajpnhaaW.PrintWords Go.Proofs.YtegdoodjajpnhaaW.PrintLast Go.Proofs.YtegdoodjajpnhaaW.PrintMore
attribute [local go_sem] max2_int min2_int max_two min_two max_three min_three max_four min_four   -- for this text's walks alone
set_option linter.unusedVariables false
set_option linter.unusedSimpArgs false

/-! ### wainwrightlaw09_lives: function 8 -/
def wainwrightlaw09_lives.f (k : Nat)  : Option (Bool) := (cards_New.f k 1 1).bind fun bt239 => ((cards_Write.f k bt239.1 bt239.2.1 bt239.2.2.1 bt239.2.2.2.1 bt239.2.2.2.2.1 bt239.2.2.2.2.2.1 bt239.2.2.2.2.2.2.1 bt239.2.2.2.2.2.2.2.1 bt239.2.2.2.2.2.2.2.2.1).bind fun bt254 => ((wainwrightref01_Zeros.f 28).bind fun t256 => (if 4 + t256.size ≤ 9223372036854775807 then ((cards_Read.f k ((⟨#[1, 1, 1, 0]⟩ : ByteArray) ++ t256)).bind fun bt257 => (if bt239.2.2.2.2.2.2.2.2.2 = 0 then (if bt254.2 = 0 then ((wainwrightref01_Zeros.f 28).bind fun t272 => (if 4 + t272.size ≤ 9223372036854775807 then (if bt254.1.toList = ((⟨#[1, 1, 1, 0]⟩ : ByteArray) ++ t272).toList then (if bt257.2.2.2.2.2.2.2.2.2 = 0 then ((cards_Same.f k bt239.1 bt239.2.1 bt239.2.2.1 bt239.2.2.2.1 bt239.2.2.2.2.1 bt239.2.2.2.2.2.1 bt239.2.2.2.2.2.2.1 bt239.2.2.2.2.2.2.2.1 bt239.2.2.2.2.2.2.2.2.1 bt257.1 bt257.2.1 bt257.2.2.1 bt257.2.2.2.1 bt257.2.2.2.2.1 bt257.2.2.2.2.2.1 bt257.2.2.2.2.2.2.1 bt257.2.2.2.2.2.2.2.1 bt257.2.2.2.2.2.2.2.2.1).bind fun t273 => (if t273 = true then (if bt257.2.2.1 = 1 then ((cards_Right.f k bt239.1 bt239.2.1 bt239.2.2.1 bt239.2.2.2.1 bt239.2.2.2.2.1 bt239.2.2.2.2.2.1 bt239.2.2.2.2.2.2.1 bt239.2.2.2.2.2.2.2.1 bt239.2.2.2.2.2.2.2.2.1).bind fun t274 => (some t274)) else (none)) else (none))) else (none)) else (none)) else (none))) else (none)) else (none))) else (none))))
theorem wainwrightlaw09_lives.mono : ∀ k, LeO (wainwrightlaw09_lives.f k ) (wainwrightlaw09_lives.f (k + 1) ) := by
  intro  k
  unfold wainwrightlaw09_lives.f
  repeat' first
      | (with_reducible exact cards_New.mono _ _ _)
      | (with_reducible exact cards_Read.mono _ _)
      | (with_reducible exact cards_Right.mono _ _ _ _ _ _ _ _ _ _)
      | (with_reducible exact cards_Same.mono _ _ _ _ _ _ _ _ _ _ _ _ _ _ _ _ _ _ _)
      | (with_reducible exact cards_Write.mono _ _ _ _ _ _ _ _ _ _)
      | (with_reducible exact LeO.refl _)
      | (with_reducible exact LeO.none _)
      | (with_reducible refine LeO.ite ?_ ?_)
      | (with_reducible refine LeO.bind ?_ (fun _ => ?_))
      | exact cards_New.mono _ _ _
      | exact cards_Read.mono _ _
      | exact cards_Right.mono _ _ _ _ _ _ _ _ _ _
      | exact cards_Same.mono _ _ _ _ _ _ _ _ _ _ _ _ _ _ _ _ _ _ _
      | exact cards_Write.mono _ _ _ _ _ _ _ _ _ _
      | exact LeO.none _
      | refine LeO.ite ?_ ?_
      | refine LeO.bind ?_ (fun _ => ?_)
set_option maxHeartbeats 8000000 in
set_option maxRecDepth 100000 in
theorem wainwrightlaw09_lives.calls (k : Nat)  (r : Bool) (w : World) (h : wainwrightlaw09_lives.f k  = some r) :
    Calls Try.prog 8 #[] w fun e w' => e = .returned (.bool r) ∧ Below w.heap.size w w' := by
  have hu25 := Try.underlying25
  have HB := Aside0.mk (Below.refl w.heap.size w)
  have H : ((cards_New.f k 1 1).bind fun bt239 => ((cards_Write.f k bt239.1 bt239.2.1 bt239.2.2.1 bt239.2.2.2.1 bt239.2.2.2.2.1 bt239.2.2.2.2.2.1 bt239.2.2.2.2.2.2.1 bt239.2.2.2.2.2.2.2.1 bt239.2.2.2.2.2.2.2.2.1).bind fun bt254 => ((wainwrightref01_Zeros.f 28).bind fun t256 => (if 4 + t256.size ≤ 9223372036854775807 then ((cards_Read.f k ((⟨#[1, 1, 1, 0]⟩ : ByteArray) ++ t256)).bind fun bt257 => (if bt239.2.2.2.2.2.2.2.2.2 = 0 then (if bt254.2 = 0 then ((wainwrightref01_Zeros.f 28).bind fun t272 => (if 4 + t272.size ≤ 9223372036854775807 then (if bt254.1.toList = ((⟨#[1, 1, 1, 0]⟩ : ByteArray) ++ t272).toList then (if bt257.2.2.2.2.2.2.2.2.2 = 0 then ((cards_Same.f k bt239.1 bt239.2.1 bt239.2.2.1 bt239.2.2.2.1 bt239.2.2.2.2.1 bt239.2.2.2.2.2.1 bt239.2.2.2.2.2.2.1 bt239.2.2.2.2.2.2.2.1 bt239.2.2.2.2.2.2.2.2.1 bt257.1 bt257.2.1 bt257.2.2.1 bt257.2.2.2.1 bt257.2.2.2.2.1 bt257.2.2.2.2.2.1 bt257.2.2.2.2.2.2.1 bt257.2.2.2.2.2.2.2.1 bt257.2.2.2.2.2.2.2.2.1).bind fun t273 => (if t273 = true then (if bt257.2.2.1 = 1 then ((cards_Right.f k bt239.1 bt239.2.1 bt239.2.2.1 bt239.2.2.2.1 bt239.2.2.2.2.1 bt239.2.2.2.2.2.1 bt239.2.2.2.2.2.2.1 bt239.2.2.2.2.2.2.2.1 bt239.2.2.2.2.2.2.2.2.1).bind fun t274 => (some t274)) else (none)) else (none))) else (none)) else (none)) else (none))) else (none)) else (none))) else (none))))) = some r := h
  clear h
  replace H := Option.bind_eq_some_iff.mp H
  obtain ⟨⟨t239, t240, t241, t242, t243, t246, t247, t248, t251, t252⟩, A10, H⟩ := H
  replace H : ((cards_Write.f k t239 t240 t241 t242 t243 t246 t247 t248 t251).bind fun bt254 => ((wainwrightref01_Zeros.f 28).bind fun t256 => (if 4 + t256.size ≤ 9223372036854775807 then ((cards_Read.f k ((⟨#[1, 1, 1, 0]⟩ : ByteArray) ++ t256)).bind fun bt257 => (if t252 = 0 then (if bt254.2 = 0 then ((wainwrightref01_Zeros.f 28).bind fun t272 => (if 4 + t272.size ≤ 9223372036854775807 then (if bt254.1.toList = ((⟨#[1, 1, 1, 0]⟩ : ByteArray) ++ t272).toList then (if bt257.2.2.2.2.2.2.2.2.2 = 0 then ((cards_Same.f k t239 t240 t241 t242 t243 t246 t247 t248 t251 bt257.1 bt257.2.1 bt257.2.2.1 bt257.2.2.2.1 bt257.2.2.2.2.1 bt257.2.2.2.2.2.1 bt257.2.2.2.2.2.2.1 bt257.2.2.2.2.2.2.2.1 bt257.2.2.2.2.2.2.2.2.1).bind fun t273 => (if t273 = true then (if bt257.2.2.1 = 1 then ((cards_Right.f k t239 t240 t241 t242 t243 t246 t247 t248 t251).bind fun t274 => (some t274)) else (none)) else (none))) else (none)) else (none)) else (none))) else (none)) else (none))) else (none)))) = some r := H
  have A1 := Aside0.mk A10
  clear A10
  replace H := Option.bind_eq_some_iff.mp H
  obtain ⟨⟨t254, t255⟩, A20, H⟩ := H
  replace H : ((wainwrightref01_Zeros.f 28).bind fun t256 => (if 4 + t256.size ≤ 9223372036854775807 then ((cards_Read.f k ((⟨#[1, 1, 1, 0]⟩ : ByteArray) ++ t256)).bind fun bt257 => (if t252 = 0 then (if t255 = 0 then ((wainwrightref01_Zeros.f 28).bind fun t272 => (if 4 + t272.size ≤ 9223372036854775807 then (if t254.toList = ((⟨#[1, 1, 1, 0]⟩ : ByteArray) ++ t272).toList then (if bt257.2.2.2.2.2.2.2.2.2 = 0 then ((cards_Same.f k t239 t240 t241 t242 t243 t246 t247 t248 t251 bt257.1 bt257.2.1 bt257.2.2.1 bt257.2.2.2.1 bt257.2.2.2.2.1 bt257.2.2.2.2.2.1 bt257.2.2.2.2.2.2.1 bt257.2.2.2.2.2.2.2.1 bt257.2.2.2.2.2.2.2.2.1).bind fun t273 => (if t273 = true then (if bt257.2.2.1 = 1 then ((cards_Right.f k t239 t240 t241 t242 t243 t246 t247 t248 t251).bind fun t274 => (some t274)) else (none)) else (none))) else (none)) else (none)) else (none))) else (none)) else (none))) else (none))) = some r := H
  have A2 := Aside0.mk A20
  clear A20
  replace H := Option.bind_eq_some_iff.mp H
  obtain ⟨t256, A30, H⟩ := H
  replace H : (if 4 + t256.size ≤ 9223372036854775807 then ((cards_Read.f k ((⟨#[1, 1, 1, 0]⟩ : ByteArray) ++ t256)).bind fun bt257 => (if t252 = 0 then (if t255 = 0 then ((wainwrightref01_Zeros.f 28).bind fun t272 => (if 4 + t272.size ≤ 9223372036854775807 then (if t254.toList = ((⟨#[1, 1, 1, 0]⟩ : ByteArray) ++ t272).toList then (if bt257.2.2.2.2.2.2.2.2.2 = 0 then ((cards_Same.f k t239 t240 t241 t242 t243 t246 t247 t248 t251 bt257.1 bt257.2.1 bt257.2.2.1 bt257.2.2.2.1 bt257.2.2.2.2.1 bt257.2.2.2.2.2.1 bt257.2.2.2.2.2.2.1 bt257.2.2.2.2.2.2.2.1 bt257.2.2.2.2.2.2.2.2.1).bind fun t273 => (if t273 = true then (if bt257.2.2.1 = 1 then ((cards_Right.f k t239 t240 t241 t242 t243 t246 t247 t248 t251).bind fun t274 => (some t274)) else (none)) else (none))) else (none)) else (none)) else (none))) else (none)) else (none))) else (none)) = some r := H
  have A3 := Aside0.mk A30
  clear A30
  by_cases c4 : 4 + t256.size ≤ 9223372036854775807
  · rw [if_pos c4] at H
    have c4b0 := eq_true c4
    have c4b1 : decide (4 + t256.size ≤ 9223372036854775807) = true := decide_eq_true c4
    try have c4b2 : (9223372036854775807 < 4 + t256.size) = False := eq_false (Nat.not_lt.2 c4)
    replace H := Option.bind_eq_some_iff.mp H
    obtain ⟨⟨t257, t258, t259, t260, t261, t264, t265, t266, t269, t270⟩, A50, H⟩ := H
    replace H : (if t252 = 0 then (if t255 = 0 then ((wainwrightref01_Zeros.f 28).bind fun t272 => (if 4 + t272.size ≤ 9223372036854775807 then (if t254.toList = ((⟨#[1, 1, 1, 0]⟩ : ByteArray) ++ t272).toList then (if t270 = 0 then ((cards_Same.f k t239 t240 t241 t242 t243 t246 t247 t248 t251 t257 t258 t259 t260 t261 t264 t265 t266 t269).bind fun t273 => (if t273 = true then (if t259 = 1 then ((cards_Right.f k t239 t240 t241 t242 t243 t246 t247 t248 t251).bind fun t274 => (some t274)) else (none)) else (none))) else (none)) else (none)) else (none))) else (none)) else (none)) = some r := H
    have A5 := Aside0.mk A50
    clear A50
    by_cases c6 : t252 = 0
    · rw [if_pos c6] at H
      have c6b0 : (t252 == 0) = true := beq_iff_eq.mpr c6
      have c6b1 : (t252 != 0) = false := bne_eq_false_iff_eq.mpr c6
      clear c6
      by_cases c7 : t255 = 0
      · rw [if_pos c7] at H
        have c7b0 : (t255 == 0) = true := beq_iff_eq.mpr c7
        have c7b1 : (t255 != 0) = false := bne_eq_false_iff_eq.mpr c7
        clear c7
        replace H := Option.bind_eq_some_iff.mp H
        obtain ⟨t272, A80, H⟩ := H
        replace H : (if 4 + t272.size ≤ 9223372036854775807 then (if t254.toList = ((⟨#[1, 1, 1, 0]⟩ : ByteArray) ++ t272).toList then (if t270 = 0 then ((cards_Same.f k t239 t240 t241 t242 t243 t246 t247 t248 t251 t257 t258 t259 t260 t261 t264 t265 t266 t269).bind fun t273 => (if t273 = true then (if t259 = 1 then ((cards_Right.f k t239 t240 t241 t242 t243 t246 t247 t248 t251).bind fun t274 => (some t274)) else (none)) else (none))) else (none)) else (none)) else (none)) = some r := H
        have A8 := Aside0.mk A80
        clear A80
        by_cases c9 : 4 + t272.size ≤ 9223372036854775807
        · rw [if_pos c9] at H
          have c9b0 := eq_true c9
          have c9b1 : decide (4 + t272.size ≤ 9223372036854775807) = true := decide_eq_true c9
          try have c9b2 : (9223372036854775807 < 4 + t272.size) = False := eq_false (Nat.not_lt.2 c9)
          by_cases c10 : t254.toList = ((⟨#[1, 1, 1, 0]⟩ : ByteArray) ++ t272).toList
          · rw [if_pos c10] at H
            have c10b0 : (t254.toList == ((⟨#[1, 1, 1, 0]⟩ : ByteArray) ++ t272).toList) = true := beq_iff_eq.mpr c10
            have c10b1 : (t254.toList != ((⟨#[1, 1, 1, 0]⟩ : ByteArray) ++ t272).toList) = false := bne_eq_false_iff_eq.mpr c10
            clear c10
            by_cases c11 : t270 = 0
            · rw [if_pos c11] at H
              have c11b0 : (t270 == 0) = true := beq_iff_eq.mpr c11
              have c11b1 : (t270 != 0) = false := bne_eq_false_iff_eq.mpr c11
              clear c11
              replace H := Option.bind_eq_some_iff.mp H
              obtain ⟨t273, A120, H⟩ := H
              replace H : (if t273 = true then (if t259 = 1 then ((cards_Right.f k t239 t240 t241 t242 t243 t246 t247 t248 t251).bind fun t274 => (some t274)) else (none)) else (none)) = some r := H
              have A12 := Aside0.mk A120
              clear A120
              by_cases c13 : t273 = true
              · subst c13
                have H1 : (if t259 = 1 then ((cards_Right.f k t239 t240 t241 t242 t243 t246 t247 t248 t251).bind fun t274 => (some t274)) else (none)) = some r := by rw [if_pos rfl] at H; exact H
                clear H
                have H := H1
                clear H1
                by_cases c14 : t259 = 1
                · rw [if_pos c14] at H
                  have c14b0 : (t259 == 1) = true := beq_iff_eq.mpr c14
                  have c14b1 : (t259 != 1) = false := bne_eq_false_iff_eq.mpr c14
                  clear c14
                  replace H := Option.bind_eq_some_iff.mp H
                  obtain ⟨t274, A150, H⟩ := H
                  replace H : (some t274) = some r := H
                  have A15 := Aside0.mk A150
                  clear A150
                  obtain rfl := Option.some.inj H
                  go_enter Try.func8, Try.ntmps8
                  go_wp2_with (first | ((with_reducible refine gate_callee (f := 17) rfl ?_); refine goesL_ (some 8) rfl rfl Try.func17 (by kernel_rfl) rfl #[.int .i64 1, .int .i64 1] rfl (by (try simp only [List.map_toArray, List.map_cons, List.map_nil]); first | done | rfl | (simp only [List.length_drop, List.length_take]; rfl)) ?_; (with_reducible refine (cards_New.calls k 1 1 t239 t240 t241 t242 t243 t246 t247 t248 t251 t252 _ A1.out).mono ?_); rintro e w16 ⟨v244, v249, rfl, ho0, ho1, hb⟩; refine ⟨_, rfl, ?_⟩; have n0_ := Aside0.mk (Kd.R_lower ho0 (below_size (by repeat (first | (with_reducible first | exact HB.out | apply below_alloc | apply pw_below_drewN | apply below_drew1) | exact HB.out)))); have n1_ := Aside0.mk (Kd.R_lower ho1 (below_size (by repeat (first | (with_reducible first | exact HB.out | apply below_alloc | apply pw_below_drewN | apply below_drew1) | exact HB.out)))); have n2_ := Aside0.mk (below_step (by repeat (first | (with_reducible first | exact HB.out | apply below_alloc | apply pw_below_drewN | apply below_drew1) | exact HB.out)) hb); clear HB; have HO245 := n0_; have HO250 := n1_; have HB := n2_; clear n0_ n1_ n2_; (try clear hb); (try clear hb2); (try clear hk); (try clear hi); (try clear ho0); (try clear ho1)) | ((with_reducible refine gate_dst (N := 1) rfl ?_); refine box_event ?hg (N := 1) ?hd (cs := #[.int .i64 0, .int .i64 0, .int .i64 0, .int .i64 0, .slice none 0 0, .int .i64 0, .int .i64 0, .slice none 0 0, .int .i64 0]) (t := 25) ?hr ?_; (case hd => rfl); (case hg => rfl); (case hr => first | (go_simp; done) | (go_simp; rfl)); intro gb253 hg w17 hbox hb; have n0_ := Aside0.mk (Kd.R_below (by (with_reducible repeat (first | apply Kd.R_alloc | apply Kd.R_drewN | apply Kd.R_drew)); exact HO245.out) hb); have n1_ := Aside0.mk (Kd.R_below (by (with_reducible repeat (first | apply Kd.R_alloc | apply Kd.R_drewN | apply Kd.R_drew)); exact HO250.out) hb); have n2_ := Aside0.mk (below_step (by repeat (first | (with_reducible first | exact HB.out | apply below_alloc | apply pw_below_drewN | apply below_drew1) | exact HB.out)) hb); have n3_ := Aside0.mk (hbox); have n4_ := Aside0.mk ((by rw [hg]; exact (below_size (by repeat (first | (with_reducible first | exact HB.out | apply below_alloc | apply pw_below_drewN | apply below_drew1) | exact HB.out))) : w.heap.size ≤ gb253)); have n5_ := Aside0.mk ((by rw [hg]; exact (below_size (by repeat (first | (with_reducible first | exact HB.out | apply below_alloc | apply pw_below_drewN | apply below_drew1) | exact HB.out))) : w.heap.size ≤ gb253)); clear HO245; clear HO250; clear HB; have HO245 := n0_; have HO250 := n1_; have HB := n2_; have BK253 := n3_; have GW253 := n4_; have GE253 := n5_; clear n0_ n1_ n2_ n3_ n4_ n5_; clear hb hbox hg; have hcz18_0 : w17.cell? ⟨gb253, 0, none⟩ = some (.int .i64 0) := (blk_cell BK253.out 0).trans rfl; have hcz18_1 : w17.cell? ⟨gb253, 1, none⟩ = some (.int .i64 0) := (blk_cell BK253.out 1).trans rfl; have hcz18_2 : w17.cell? ⟨gb253, 2, none⟩ = some (.int .i64 0) := (blk_cell BK253.out 2).trans rfl; have hcz18_3 : w17.cell? ⟨gb253, 3, none⟩ = some (.int .i64 0) := (blk_cell BK253.out 3).trans rfl; have hcz18_4 : w17.cell? ⟨gb253, 4, none⟩ = some (.slice none 0 0) := (blk_cell BK253.out 4).trans rfl; have hcz18_5 : w17.cell? ⟨gb253, 5, none⟩ = some (.int .i64 0) := (blk_cell BK253.out 5).trans rfl; have hcz18_6 : w17.cell? ⟨gb253, 6, none⟩ = some (.int .i64 0) := (blk_cell BK253.out 6).trans rfl; have hcz18_7 : w17.cell? ⟨gb253, 7, none⟩ = some (.slice none 0 0) := (blk_cell BK253.out 7).trans rfl; have hcz18_8 : w17.cell? ⟨gb253, 8, none⟩ = some (.int .i64 0) := (blk_cell BK253.out 8).trans rfl; have hfz18_0 := blk_frozen BK253.out 0; have hfz18_1 := blk_frozen BK253.out 1; have hfz18_2 := blk_frozen BK253.out 2; have hfz18_3 := blk_frozen BK253.out 3; have hfz18_4 := blk_frozen BK253.out 4; have hfz18_5 := blk_frozen BK253.out 5; have hfz18_6 := blk_frozen BK253.out 6; have hfz18_7 := blk_frozen BK253.out 7; have hfz18_8 := blk_frozen BK253.out 8; obtain ⟨Ao19, co19, eo19⟩ := Kd.R_slice HO245.out; subst eo19; obtain ⟨Ao20, co20, eo20⟩ := Kd.R_slice HO250.out; subst eo20) | ((with_reducible refine gate_callee (f := 9) rfl ?_); refine goesL_ (some 13) rfl rfl Try.func9 (by kernel_rfl) rfl #[.agg #[.int .i64 t239, .int .i64 t240, .int .i64 t241, .int .i64 t242, .slice Ao19 t243.length co19, .int .i64 t246, .int .i64 t247, .slice Ao20 t248.length co20, .int .i64 t251]] rfl (by (try simp only [List.map_toArray, List.map_cons, List.map_nil]); first | done | rfl | (simp only [List.length_drop, List.length_take]; rfl)) ?_; (with_reducible refine (cards_Write.calls k t239 t240 t241 t242 _ _ t243 t246 t247 _ _ t248 t251 t254 t255 _ ?side1 ?side2 ?side3 ?side4 A2.out).mono ?_); (case side1 => refine (Kd.R_reads' (e := 3) (base := w.heap.size) (ok := fun k_ => True) (n := t243.length) (c := co19) ?_).2.2; exact (by (with_reducible repeat (first | apply Kd.R_alloc | apply Kd.R_drewN | apply Kd.R_drew)); exact (Kd.R_mono (Kd.R_far (p := ⟨gb253, 8, none⟩) (Kd.R_far (p := ⟨gb253, 7, none⟩) (Kd.R_far (p := ⟨gb253, 6, none⟩) (Kd.R_far (p := ⟨gb253, 5, none⟩) (Kd.R_far (p := ⟨gb253, 4, none⟩) (Kd.R_far (p := ⟨gb253, 3, none⟩) (Kd.R_far (p := ⟨gb253, 2, none⟩) (Kd.R_far (p := ⟨gb253, 1, none⟩) (Kd.R_far (p := ⟨gb253, 0, none⟩) (Kd.R_types HO245.out BK253.out (by decide)) (fun _ hk => hk.2) (.int .i64 t239)) (fun _ hk => hk.2) (.int .i64 t240)) (fun _ hk => hk.2) (.int .i64 t241)) (fun _ hk => hk.2) (.int .i64 t242)) (fun _ hk => hk.2) (.slice Ao19 t243.length co19)) (fun _ hk => hk.2) (.int .i64 t246)) (fun _ hk => hk.2) (.int .i64 t247)) (fun _ hk => hk.2) (.slice Ao20 t248.length co20)) (fun _ hk => hk.2) (.int .i64 t251)) (fun _ h_ => h_.1)))); (case side2 => exact (Kd.R_reads' HO245.out).2.1); (case side3 => refine (Kd.R_reads' (e := 48) (base := w.heap.size) (ok := fun k_ => True) (n := t248.length) (c := co20) ?_).2.2; exact (by (with_reducible repeat (first | apply Kd.R_alloc | apply Kd.R_drewN | apply Kd.R_drew)); exact (Kd.R_mono (Kd.R_far (p := ⟨gb253, 8, none⟩) (Kd.R_far (p := ⟨gb253, 7, none⟩) (Kd.R_far (p := ⟨gb253, 6, none⟩) (Kd.R_far (p := ⟨gb253, 5, none⟩) (Kd.R_far (p := ⟨gb253, 4, none⟩) (Kd.R_far (p := ⟨gb253, 3, none⟩) (Kd.R_far (p := ⟨gb253, 2, none⟩) (Kd.R_far (p := ⟨gb253, 1, none⟩) (Kd.R_far (p := ⟨gb253, 0, none⟩) (Kd.R_types HO250.out BK253.out (by decide)) (fun _ hk => hk.2) (.int .i64 t239)) (fun _ hk => hk.2) (.int .i64 t240)) (fun _ hk => hk.2) (.int .i64 t241)) (fun _ hk => hk.2) (.int .i64 t242)) (fun _ hk => hk.2) (.slice Ao19 t243.length co19)) (fun _ hk => hk.2) (.int .i64 t246)) (fun _ hk => hk.2) (.int .i64 t247)) (fun _ hk => hk.2) (.slice Ao20 t248.length co20)) (fun _ hk => hk.2) (.int .i64 t251)) (fun _ h_ => h_.1)))); (case side4 => exact (Kd.R_reads' HO250.out).2.1); rintro e w21 ⟨rfl, hb⟩; refine ⟨_, rfl, ?_⟩; have n0_ := Aside0.mk (Kd.R_below (by (with_reducible repeat (first | apply Kd.R_alloc | apply Kd.R_drewN | apply Kd.R_drew)); exact (Kd.R_mono (Kd.R_far (p := ⟨gb253, 8, none⟩) (Kd.R_far (p := ⟨gb253, 7, none⟩) (Kd.R_far (p := ⟨gb253, 6, none⟩) (Kd.R_far (p := ⟨gb253, 5, none⟩) (Kd.R_far (p := ⟨gb253, 4, none⟩) (Kd.R_far (p := ⟨gb253, 3, none⟩) (Kd.R_far (p := ⟨gb253, 2, none⟩) (Kd.R_far (p := ⟨gb253, 1, none⟩) (Kd.R_far (p := ⟨gb253, 0, none⟩) (Kd.R_types HO245.out BK253.out (by decide)) (fun _ hk => hk.2) (.int .i64 t239)) (fun _ hk => hk.2) (.int .i64 t240)) (fun _ hk => hk.2) (.int .i64 t241)) (fun _ hk => hk.2) (.int .i64 t242)) (fun _ hk => hk.2) (.slice Ao19 t243.length co19)) (fun _ hk => hk.2) (.int .i64 t246)) (fun _ hk => hk.2) (.int .i64 t247)) (fun _ hk => hk.2) (.slice Ao20 t248.length co20)) (fun _ hk => hk.2) (.int .i64 t251)) (fun _ h_ => h_.1))) hb); have n1_ := Aside0.mk (Kd.R_below (by (with_reducible repeat (first | apply Kd.R_alloc | apply Kd.R_drewN | apply Kd.R_drew)); exact (Kd.R_mono (Kd.R_far (p := ⟨gb253, 8, none⟩) (Kd.R_far (p := ⟨gb253, 7, none⟩) (Kd.R_far (p := ⟨gb253, 6, none⟩) (Kd.R_far (p := ⟨gb253, 5, none⟩) (Kd.R_far (p := ⟨gb253, 4, none⟩) (Kd.R_far (p := ⟨gb253, 3, none⟩) (Kd.R_far (p := ⟨gb253, 2, none⟩) (Kd.R_far (p := ⟨gb253, 1, none⟩) (Kd.R_far (p := ⟨gb253, 0, none⟩) (Kd.R_types HO250.out BK253.out (by decide)) (fun _ hk => hk.2) (.int .i64 t239)) (fun _ hk => hk.2) (.int .i64 t240)) (fun _ hk => hk.2) (.int .i64 t241)) (fun _ hk => hk.2) (.int .i64 t242)) (fun _ hk => hk.2) (.slice Ao19 t243.length co19)) (fun _ hk => hk.2) (.int .i64 t246)) (fun _ hk => hk.2) (.int .i64 t247)) (fun _ hk => hk.2) (.slice Ao20 t248.length co20)) (fun _ hk => hk.2) (.int .i64 t251)) (fun _ h_ => h_.1))) hb); have n2_ := Aside0.mk (blk_below (g := gb253) (o := .cells #[.int .i64 t239, .int .i64 t240, .int .i64 t241, .int .i64 t242, .slice Ao19 t243.length co19, .int .i64 t246, .int .i64 t247, .slice Ao20 t248.length co20, .int .i64 t251] 25 (0, 0)) (by (with_reducible repeat (first | refine blk_drewN ?_ _ | refine blk_drew ?_ | refine blk_alloc ?_ _)); refine blk_put (cs := #[.int .i64 t239, .int .i64 t240, .int .i64 t241, .int .i64 t242, .slice Ao19 t243.length co19, .int .i64 t246, .int .i64 t247, .slice Ao20 t248.length co20, .int .i64 0]) ?_ 8 _ rfl; (with_reducible repeat (first | refine blk_drewN ?_ _ | refine blk_drew ?_ | refine blk_alloc ?_ _)); refine blk_put (cs := #[.int .i64 t239, .int .i64 t240, .int .i64 t241, .int .i64 t242, .slice Ao19 t243.length co19, .int .i64 t246, .int .i64 t247, .slice none 0 0, .int .i64 0]) ?_ 7 _ rfl; (with_reducible repeat (first | refine blk_drewN ?_ _ | refine blk_drew ?_ | refine blk_alloc ?_ _)); refine blk_put (cs := #[.int .i64 t239, .int .i64 t240, .int .i64 t241, .int .i64 t242, .slice Ao19 t243.length co19, .int .i64 t246, .int .i64 0, .slice none 0 0, .int .i64 0]) ?_ 6 _ rfl; (with_reducible repeat (first | refine blk_drewN ?_ _ | refine blk_drew ?_ | refine blk_alloc ?_ _)); refine blk_put (cs := #[.int .i64 t239, .int .i64 t240, .int .i64 t241, .int .i64 t242, .slice Ao19 t243.length co19, .int .i64 0, .int .i64 0, .slice none 0 0, .int .i64 0]) ?_ 5 _ rfl; (with_reducible repeat (first | refine blk_drewN ?_ _ | refine blk_drew ?_ | refine blk_alloc ?_ _)); refine blk_put (cs := #[.int .i64 t239, .int .i64 t240, .int .i64 t241, .int .i64 t242, .slice none 0 0, .int .i64 0, .int .i64 0, .slice none 0 0, .int .i64 0]) ?_ 4 _ rfl; (with_reducible repeat (first | refine blk_drewN ?_ _ | refine blk_drew ?_ | refine blk_alloc ?_ _)); refine blk_put (cs := #[.int .i64 t239, .int .i64 t240, .int .i64 t241, .int .i64 0, .slice none 0 0, .int .i64 0, .int .i64 0, .slice none 0 0, .int .i64 0]) ?_ 3 _ rfl; (with_reducible repeat (first | refine blk_drewN ?_ _ | refine blk_drew ?_ | refine blk_alloc ?_ _)); refine blk_put (cs := #[.int .i64 t239, .int .i64 t240, .int .i64 0, .int .i64 0, .slice none 0 0, .int .i64 0, .int .i64 0, .slice none 0 0, .int .i64 0]) ?_ 2 _ rfl; (with_reducible repeat (first | refine blk_drewN ?_ _ | refine blk_drew ?_ | refine blk_alloc ?_ _)); refine blk_put (cs := #[.int .i64 t239, .int .i64 0, .int .i64 0, .int .i64 0, .slice none 0 0, .int .i64 0, .int .i64 0, .slice none 0 0, .int .i64 0]) ?_ 1 _ rfl; (with_reducible repeat (first | refine blk_drewN ?_ _ | refine blk_drew ?_ | refine blk_alloc ?_ _)); refine blk_put (cs := #[.int .i64 0, .int .i64 0, .int .i64 0, .int .i64 0, .slice none 0 0, .int .i64 0, .int .i64 0, .slice none 0 0, .int .i64 0]) ?_ 0 _ rfl; (with_reducible repeat (first | refine blk_drewN ?_ _ | refine blk_drew ?_ | refine blk_alloc ?_ _)); exact BK253.out) hb); have n3_ := Aside0.mk (below_step (by repeat (first | (with_reducible first | exact HB.out | apply below_alloc | apply pw_below_drewN | apply below_drew1 | refine below_set ?_ GE253.out) | exact HB.out)) hb); clear HO245; clear HO250; clear BK253; clear HB; have HO245 := n0_; have HO250 := n1_; have BK253 := n2_; have HB := n3_; clear n0_ n1_ n2_ n3_; (try clear hb); (try clear hb2); (try clear hk); (try clear hi)) | ((with_reducible refine gate_callee (f := 21) rfl ?_); refine goesL_ (some 17) rfl rfl Try.func21 (by kernel_rfl) rfl #[.int .i64 28] rfl (by (try simp only [List.map_toArray, List.map_cons, List.map_nil]); first | done | rfl | (simp only [List.length_drop, List.length_take]; rfl)) ?_; (with_reducible refine (wainwrightref01_Zeros.calls 28 t256 _ A3.out).mono ?_); rintro e w22 ⟨rfl, hb⟩; refine ⟨_, rfl, ?_⟩; have n0_ := Aside0.mk (Kd.R_below (by (with_reducible repeat (first | apply Kd.R_alloc | apply Kd.R_drewN | apply Kd.R_drew)); exact HO245.out) hb); have n1_ := Aside0.mk (Kd.R_below (by (with_reducible repeat (first | apply Kd.R_alloc | apply Kd.R_drewN | apply Kd.R_drew)); exact HO250.out) hb); have n2_ := Aside0.mk (blk_below (g := gb253) (o := .cells #[.int .i64 t239, .int .i64 t240, .int .i64 t241, .int .i64 t242, .slice Ao19 t243.length co19, .int .i64 t246, .int .i64 t247, .slice Ao20 t248.length co20, .int .i64 t251] 25 (0, 0)) (by (with_reducible repeat (first | refine blk_drewN ?_ _ | refine blk_drew ?_ | refine blk_alloc ?_ _)); exact BK253.out) hb); have n3_ := Aside0.mk (below_step (by repeat (first | (with_reducible first | exact HB.out | apply below_alloc | apply pw_below_drewN | apply below_drew1 | refine below_set ?_ GE253.out) | exact HB.out)) hb); clear HO245; clear HO250; clear BK253; clear HB; have HO245 := n0_; have HO250 := n1_; have BK253 := n2_; have HB := n3_; clear n0_ n1_ n2_ n3_; (try clear hb); (try clear hb2); (try clear hk); (try clear hi)) | ((with_reducible refine gate_callee (f := 13) rfl ?_); refine goesL_ (some 19) rfl rfl Try.func13 (by kernel_rfl) rfl #[.string ((⟨#[1, 1, 1, 0]⟩ : ByteArray) ++ t256)] rfl (by (try simp only [List.map_toArray, List.map_cons, List.map_nil]); first | done | rfl | (simp only [List.length_drop, List.length_take]; rfl)) ?_; (with_reducible refine (cards_Read.calls k ((⟨#[1, 1, 1, 0]⟩ : ByteArray) ++ t256) t257 t258 t259 t260 t261 t264 t265 t266 t269 t270 _ A5.out).mono ?_); rintro e w23 ⟨v262, v267, rfl, ho0, ho1, hb⟩; refine ⟨_, rfl, ?_⟩; have n0_ := Aside0.mk (Kd.R_elder' (by (with_reducible repeat (first | apply Kd.R_alloc | apply Kd.R_drewN | apply Kd.R_drew)); exact HO245.out) (Kd.R_base ho0) hb); have n1_ := Aside0.mk (Kd.R_elder' (by (with_reducible repeat (first | apply Kd.R_alloc | apply Kd.R_drewN | apply Kd.R_drew)); exact HO250.out) (Kd.R_base ho1) hb); have n2_ := Aside0.mk (Kd.R_lower (Kd.R_new' ho0 (Kd.R_lt (by (with_reducible repeat (first | apply Kd.R_alloc | apply Kd.R_drewN | apply Kd.R_drew)); exact HO245.out))) (below_size (by repeat (first | (with_reducible first | exact HB.out | apply below_alloc | apply pw_below_drewN | apply below_drew1 | refine below_set ?_ GE253.out) | exact HB.out)))); have n3_ := Aside0.mk (Kd.R_lower (Kd.R_new' ho1 (Kd.R_lt (by (with_reducible repeat (first | apply Kd.R_alloc | apply Kd.R_drewN | apply Kd.R_drew)); exact HO250.out))) (below_size (by repeat (first | (with_reducible first | exact HB.out | apply below_alloc | apply pw_below_drewN | apply below_drew1 | refine below_set ?_ GE253.out) | exact HB.out)))); have n4_ := Aside0.mk (blk_below (g := gb253) (o := .cells #[.int .i64 t239, .int .i64 t240, .int .i64 t241, .int .i64 t242, .slice Ao19 t243.length co19, .int .i64 t246, .int .i64 t247, .slice Ao20 t248.length co20, .int .i64 t251] 25 (0, 0)) (by (with_reducible repeat (first | refine blk_drewN ?_ _ | refine blk_drew ?_ | refine blk_alloc ?_ _)); exact BK253.out) hb); have n5_ := Aside0.mk (below_step (by repeat (first | (with_reducible first | exact HB.out | apply below_alloc | apply pw_below_drewN | apply below_drew1 | refine below_set ?_ GE253.out) | exact HB.out)) hb); clear HO245; clear HO250; clear BK253; clear HB; have HO245 := n0_; have HO250 := n1_; have HO263 := n2_; have HO268 := n3_; have BK253 := n4_; have HB := n5_; clear n0_ n1_ n2_ n3_ n4_ n5_; (try clear hb); (try clear hb2); (try clear hk); (try clear hi); (try clear ho0); (try clear ho1)) | ((with_reducible refine gate_dst (N := 5) rfl ?_); refine box_event ?hg (N := 5) ?hd (cs := #[.int .i64 0, .int .i64 0, .int .i64 0, .int .i64 0, .slice none 0 0, .int .i64 0, .int .i64 0, .slice none 0 0, .int .i64 0]) (t := 25) ?hr ?_; (case hd => rfl); (case hg => rfl); (case hr => first | (go_simp; done) | (go_simp; rfl)); intro gb271 hg w24 hbox hb; have n0_ := Aside0.mk (Kd.R_below (by (with_reducible repeat (first | apply Kd.R_alloc | apply Kd.R_drewN | apply Kd.R_drew)); exact HO245.out) hb); have n1_ := Aside0.mk (Kd.R_below (by (with_reducible repeat (first | apply Kd.R_alloc | apply Kd.R_drewN | apply Kd.R_drew)); exact HO250.out) hb); have n2_ := Aside0.mk (Kd.R_below (by (with_reducible repeat (first | apply Kd.R_alloc | apply Kd.R_drewN | apply Kd.R_drew)); exact HO263.out) hb); have n3_ := Aside0.mk (Kd.R_below (by (with_reducible repeat (first | apply Kd.R_alloc | apply Kd.R_drewN | apply Kd.R_drew)); exact HO268.out) hb); have n4_ := Aside0.mk (blk_below (g := gb253) (o := .cells #[.int .i64 t239, .int .i64 t240, .int .i64 t241, .int .i64 t242, .slice Ao19 t243.length co19, .int .i64 t246, .int .i64 t247, .slice Ao20 t248.length co20, .int .i64 t251] 25 (0, 0)) (by (with_reducible repeat (first | refine blk_drewN ?_ _ | refine blk_drew ?_ | refine blk_alloc ?_ _)); exact BK253.out) hb); have n5_ := Aside0.mk (below_step (by repeat (first | (with_reducible first | exact HB.out | apply below_alloc | apply pw_below_drewN | apply below_drew1 | refine below_set ?_ GE253.out) | exact HB.out)) hb); have n6_ := Aside0.mk (hbox); have n7_ := Aside0.mk ((by rw [hg]; exact (below_size (by repeat (first | (with_reducible first | exact HB.out | apply below_alloc | apply pw_below_drewN | apply below_drew1 | refine below_set ?_ GE253.out) | exact HB.out))) : w.heap.size ≤ gb271)); have n8_ := Aside0.mk ((by rw [hg]; exact (below_size (by repeat (first | (with_reducible first | exact HB.out | apply below_alloc | apply pw_below_drewN | apply below_drew1 | refine below_set ?_ GE253.out) | exact HB.out))) : w.heap.size ≤ gb271)); have n9_ := Aside0.mk ((by rw [hg]; exact Nat.ne_of_lt (blk_lt (g := gb253) (o := .cells #[.int .i64 t239, .int .i64 t240, .int .i64 t241, .int .i64 t242, .slice Ao19 t243.length co19, .int .i64 t246, .int .i64 t247, .slice Ao20 t248.length co20, .int .i64 t251] 25 (0, 0)) (by (with_reducible repeat (first | refine blk_drewN ?_ _ | refine blk_drew ?_ | refine blk_alloc ?_ _)); exact BK253.out)) : gb253 ≠ gb271)); have n10_ := Aside0.mk ((by rw [hg]; exact Nat.ne_of_gt (blk_lt (g := gb253) (o := .cells #[.int .i64 t239, .int .i64 t240, .int .i64 t241, .int .i64 t242, .slice Ao19 t243.length co19, .int .i64 t246, .int .i64 t247, .slice Ao20 t248.length co20, .int .i64 t251] 25 (0, 0)) (by (with_reducible repeat (first | refine blk_drewN ?_ _ | refine blk_drew ?_ | refine blk_alloc ?_ _)); exact BK253.out)) : gb271 ≠ gb253)); clear HO245; clear HO250; clear HO263; clear HO268; clear BK253; clear HB; have HO245 := n0_; have HO250 := n1_; have HO263 := n2_; have HO268 := n3_; have BK253 := n4_; have HB := n5_; have BK271 := n6_; have GW271 := n7_; have GE271 := n8_; have NB253_271 := n9_; have NB271_253 := n10_; clear n0_ n1_ n2_ n3_ n4_ n5_ n6_ n7_ n8_ n9_ n10_; clear hb hbox hg; have hnb25 := NB271_253.out; have hnc25 := NB253_271.out; have hcz26_0 : w24.cell? ⟨gb271, 0, none⟩ = some (.int .i64 0) := (blk_cell BK271.out 0).trans rfl; have hcz26_1 : w24.cell? ⟨gb271, 1, none⟩ = some (.int .i64 0) := (blk_cell BK271.out 1).trans rfl; have hcz26_2 : w24.cell? ⟨gb271, 2, none⟩ = some (.int .i64 0) := (blk_cell BK271.out 2).trans rfl; have hcz26_3 : w24.cell? ⟨gb271, 3, none⟩ = some (.int .i64 0) := (blk_cell BK271.out 3).trans rfl; have hcz26_4 : w24.cell? ⟨gb271, 4, none⟩ = some (.slice none 0 0) := (blk_cell BK271.out 4).trans rfl; have hcz26_5 : w24.cell? ⟨gb271, 5, none⟩ = some (.int .i64 0) := (blk_cell BK271.out 5).trans rfl; have hcz26_6 : w24.cell? ⟨gb271, 6, none⟩ = some (.int .i64 0) := (blk_cell BK271.out 6).trans rfl; have hcz26_7 : w24.cell? ⟨gb271, 7, none⟩ = some (.slice none 0 0) := (blk_cell BK271.out 7).trans rfl; have hcz26_8 : w24.cell? ⟨gb271, 8, none⟩ = some (.int .i64 0) := (blk_cell BK271.out 8).trans rfl; have hfz26_0 := blk_frozen BK271.out 0; have hfz26_1 := blk_frozen BK271.out 1; have hfz26_2 := blk_frozen BK271.out 2; have hfz26_3 := blk_frozen BK271.out 3; have hfz26_4 := blk_frozen BK271.out 4; have hfz26_5 := blk_frozen BK271.out 5; have hfz26_6 := blk_frozen BK271.out 6; have hfz26_7 := blk_frozen BK271.out 7; have hfz26_8 := blk_frozen BK271.out 8; obtain ⟨Ao27, co27, eo27⟩ := Kd.R_slice HO263.out; subst eo27; obtain ⟨Ao28, co28, eo28⟩ := Kd.R_slice HO268.out; subst eo28) | (go_at_call 21; (with_reducible refine (wainwrightref01_Zeros.calls 28 t272 _ A8.out).mono ?_); rintro e w29 ⟨rfl, hb⟩; have n0_ := Aside0.mk (Kd.R_below (by (with_reducible repeat (first | apply Kd.R_alloc | apply Kd.R_drewN | apply Kd.R_drew)); exact (Kd.R_mono (Kd.R_far (p := ⟨gb271, 8, none⟩) (Kd.R_far (p := ⟨gb271, 7, none⟩) (Kd.R_far (p := ⟨gb271, 6, none⟩) (Kd.R_far (p := ⟨gb271, 5, none⟩) (Kd.R_far (p := ⟨gb271, 4, none⟩) (Kd.R_far (p := ⟨gb271, 3, none⟩) (Kd.R_far (p := ⟨gb271, 2, none⟩) (Kd.R_far (p := ⟨gb271, 1, none⟩) (Kd.R_far (p := ⟨gb271, 0, none⟩) (Kd.R_types HO245.out BK271.out (by decide)) (fun _ hk => hk.2) (.int .i64 t257)) (fun _ hk => hk.2) (.int .i64 t258)) (fun _ hk => hk.2) (.int .i64 t259)) (fun _ hk => hk.2) (.int .i64 t260)) (fun _ hk => hk.2) (.slice Ao27 t261.length co27)) (fun _ hk => hk.2) (.int .i64 t264)) (fun _ hk => hk.2) (.int .i64 t265)) (fun _ hk => hk.2) (.slice Ao28 t266.length co28)) (fun _ hk => hk.2) (.int .i64 t269)) (fun _ h_ => h_.1))) hb); have n1_ := Aside0.mk (Kd.R_below (by (with_reducible repeat (first | apply Kd.R_alloc | apply Kd.R_drewN | apply Kd.R_drew)); exact (Kd.R_mono (Kd.R_far (p := ⟨gb271, 8, none⟩) (Kd.R_far (p := ⟨gb271, 7, none⟩) (Kd.R_far (p := ⟨gb271, 6, none⟩) (Kd.R_far (p := ⟨gb271, 5, none⟩) (Kd.R_far (p := ⟨gb271, 4, none⟩) (Kd.R_far (p := ⟨gb271, 3, none⟩) (Kd.R_far (p := ⟨gb271, 2, none⟩) (Kd.R_far (p := ⟨gb271, 1, none⟩) (Kd.R_far (p := ⟨gb271, 0, none⟩) (Kd.R_types HO250.out BK271.out (by decide)) (fun _ hk => hk.2) (.int .i64 t257)) (fun _ hk => hk.2) (.int .i64 t258)) (fun _ hk => hk.2) (.int .i64 t259)) (fun _ hk => hk.2) (.int .i64 t260)) (fun _ hk => hk.2) (.slice Ao27 t261.length co27)) (fun _ hk => hk.2) (.int .i64 t264)) (fun _ hk => hk.2) (.int .i64 t265)) (fun _ hk => hk.2) (.slice Ao28 t266.length co28)) (fun _ hk => hk.2) (.int .i64 t269)) (fun _ h_ => h_.1))) hb); have n2_ := Aside0.mk (Kd.R_below (by (with_reducible repeat (first | apply Kd.R_alloc | apply Kd.R_drewN | apply Kd.R_drew)); exact (Kd.R_mono (Kd.R_far (p := ⟨gb271, 8, none⟩) (Kd.R_far (p := ⟨gb271, 7, none⟩) (Kd.R_far (p := ⟨gb271, 6, none⟩) (Kd.R_far (p := ⟨gb271, 5, none⟩) (Kd.R_far (p := ⟨gb271, 4, none⟩) (Kd.R_far (p := ⟨gb271, 3, none⟩) (Kd.R_far (p := ⟨gb271, 2, none⟩) (Kd.R_far (p := ⟨gb271, 1, none⟩) (Kd.R_far (p := ⟨gb271, 0, none⟩) (Kd.R_types HO263.out BK271.out (by decide)) (fun _ hk => hk.2) (.int .i64 t257)) (fun _ hk => hk.2) (.int .i64 t258)) (fun _ hk => hk.2) (.int .i64 t259)) (fun _ hk => hk.2) (.int .i64 t260)) (fun _ hk => hk.2) (.slice Ao27 t261.length co27)) (fun _ hk => hk.2) (.int .i64 t264)) (fun _ hk => hk.2) (.int .i64 t265)) (fun _ hk => hk.2) (.slice Ao28 t266.length co28)) (fun _ hk => hk.2) (.int .i64 t269)) (fun _ h_ => h_.1))) hb); have n3_ := Aside0.mk (Kd.R_below (by (with_reducible repeat (first | apply Kd.R_alloc | apply Kd.R_drewN | apply Kd.R_drew)); exact (Kd.R_mono (Kd.R_far (p := ⟨gb271, 8, none⟩) (Kd.R_far (p := ⟨gb271, 7, none⟩) (Kd.R_far (p := ⟨gb271, 6, none⟩) (Kd.R_far (p := ⟨gb271, 5, none⟩) (Kd.R_far (p := ⟨gb271, 4, none⟩) (Kd.R_far (p := ⟨gb271, 3, none⟩) (Kd.R_far (p := ⟨gb271, 2, none⟩) (Kd.R_far (p := ⟨gb271, 1, none⟩) (Kd.R_far (p := ⟨gb271, 0, none⟩) (Kd.R_types HO268.out BK271.out (by decide)) (fun _ hk => hk.2) (.int .i64 t257)) (fun _ hk => hk.2) (.int .i64 t258)) (fun _ hk => hk.2) (.int .i64 t259)) (fun _ hk => hk.2) (.int .i64 t260)) (fun _ hk => hk.2) (.slice Ao27 t261.length co27)) (fun _ hk => hk.2) (.int .i64 t264)) (fun _ hk => hk.2) (.int .i64 t265)) (fun _ hk => hk.2) (.slice Ao28 t266.length co28)) (fun _ hk => hk.2) (.int .i64 t269)) (fun _ h_ => h_.1))) hb); have n4_ := Aside0.mk (blk_below (g := gb253) (o := .cells #[.int .i64 t239, .int .i64 t240, .int .i64 t241, .int .i64 t242, .slice Ao19 t243.length co19, .int .i64 t246, .int .i64 t247, .slice Ao20 t248.length co20, .int .i64 t251] 25 (0, 0)) (by (with_reducible repeat (first | refine blk_drewN ?_ _ | refine blk_drew ?_ | refine blk_alloc ?_ _)); refine blk_far ?_ NB253_271.out _; (with_reducible repeat (first | refine blk_drewN ?_ _ | refine blk_drew ?_ | refine blk_alloc ?_ _)); refine blk_far ?_ NB253_271.out _; (with_reducible repeat (first | refine blk_drewN ?_ _ | refine blk_drew ?_ | refine blk_alloc ?_ _)); refine blk_far ?_ NB253_271.out _; (with_reducible repeat (first | refine blk_drewN ?_ _ | refine blk_drew ?_ | refine blk_alloc ?_ _)); refine blk_far ?_ NB253_271.out _; (with_reducible repeat (first | refine blk_drewN ?_ _ | refine blk_drew ?_ | refine blk_alloc ?_ _)); refine blk_far ?_ NB253_271.out _; (with_reducible repeat (first | refine blk_drewN ?_ _ | refine blk_drew ?_ | refine blk_alloc ?_ _)); refine blk_far ?_ NB253_271.out _; (with_reducible repeat (first | refine blk_drewN ?_ _ | refine blk_drew ?_ | refine blk_alloc ?_ _)); refine blk_far ?_ NB253_271.out _; (with_reducible repeat (first | refine blk_drewN ?_ _ | refine blk_drew ?_ | refine blk_alloc ?_ _)); refine blk_far ?_ NB253_271.out _; (with_reducible repeat (first | refine blk_drewN ?_ _ | refine blk_drew ?_ | refine blk_alloc ?_ _)); refine blk_far ?_ NB253_271.out _; (with_reducible repeat (first | refine blk_drewN ?_ _ | refine blk_drew ?_ | refine blk_alloc ?_ _)); exact BK253.out) hb); have n5_ := Aside0.mk (blk_below (g := gb271) (o := .cells #[.int .i64 t257, .int .i64 t258, .int .i64 t259, .int .i64 t260, .slice Ao27 t261.length co27, .int .i64 t264, .int .i64 t265, .slice Ao28 t266.length co28, .int .i64 t269] 25 (0, 0)) (by (with_reducible repeat (first | refine blk_drewN ?_ _ | refine blk_drew ?_ | refine blk_alloc ?_ _)); refine blk_put (cs := #[.int .i64 t257, .int .i64 t258, .int .i64 t259, .int .i64 t260, .slice Ao27 t261.length co27, .int .i64 t264, .int .i64 t265, .slice Ao28 t266.length co28, .int .i64 0]) ?_ 8 _ rfl; (with_reducible repeat (first | refine blk_drewN ?_ _ | refine blk_drew ?_ | refine blk_alloc ?_ _)); refine blk_put (cs := #[.int .i64 t257, .int .i64 t258, .int .i64 t259, .int .i64 t260, .slice Ao27 t261.length co27, .int .i64 t264, .int .i64 t265, .slice none 0 0, .int .i64 0]) ?_ 7 _ rfl; (with_reducible repeat (first | refine blk_drewN ?_ _ | refine blk_drew ?_ | refine blk_alloc ?_ _)); refine blk_put (cs := #[.int .i64 t257, .int .i64 t258, .int .i64 t259, .int .i64 t260, .slice Ao27 t261.length co27, .int .i64 t264, .int .i64 0, .slice none 0 0, .int .i64 0]) ?_ 6 _ rfl; (with_reducible repeat (first | refine blk_drewN ?_ _ | refine blk_drew ?_ | refine blk_alloc ?_ _)); refine blk_put (cs := #[.int .i64 t257, .int .i64 t258, .int .i64 t259, .int .i64 t260, .slice Ao27 t261.length co27, .int .i64 0, .int .i64 0, .slice none 0 0, .int .i64 0]) ?_ 5 _ rfl; (with_reducible repeat (first | refine blk_drewN ?_ _ | refine blk_drew ?_ | refine blk_alloc ?_ _)); refine blk_put (cs := #[.int .i64 t257, .int .i64 t258, .int .i64 t259, .int .i64 t260, .slice none 0 0, .int .i64 0, .int .i64 0, .slice none 0 0, .int .i64 0]) ?_ 4 _ rfl; (with_reducible repeat (first | refine blk_drewN ?_ _ | refine blk_drew ?_ | refine blk_alloc ?_ _)); refine blk_put (cs := #[.int .i64 t257, .int .i64 t258, .int .i64 t259, .int .i64 0, .slice none 0 0, .int .i64 0, .int .i64 0, .slice none 0 0, .int .i64 0]) ?_ 3 _ rfl; (with_reducible repeat (first | refine blk_drewN ?_ _ | refine blk_drew ?_ | refine blk_alloc ?_ _)); refine blk_put (cs := #[.int .i64 t257, .int .i64 t258, .int .i64 0, .int .i64 0, .slice none 0 0, .int .i64 0, .int .i64 0, .slice none 0 0, .int .i64 0]) ?_ 2 _ rfl; (with_reducible repeat (first | refine blk_drewN ?_ _ | refine blk_drew ?_ | refine blk_alloc ?_ _)); refine blk_put (cs := #[.int .i64 t257, .int .i64 0, .int .i64 0, .int .i64 0, .slice none 0 0, .int .i64 0, .int .i64 0, .slice none 0 0, .int .i64 0]) ?_ 1 _ rfl; (with_reducible repeat (first | refine blk_drewN ?_ _ | refine blk_drew ?_ | refine blk_alloc ?_ _)); refine blk_put (cs := #[.int .i64 0, .int .i64 0, .int .i64 0, .int .i64 0, .slice none 0 0, .int .i64 0, .int .i64 0, .slice none 0 0, .int .i64 0]) ?_ 0 _ rfl; (with_reducible repeat (first | refine blk_drewN ?_ _ | refine blk_drew ?_ | refine blk_alloc ?_ _)); exact BK271.out) hb); have n6_ := Aside0.mk (below_step (by repeat (first | (with_reducible first | exact HB.out | apply below_alloc | apply pw_below_drewN | apply below_drew1 | refine below_set ?_ GE253.out | refine below_set ?_ GE271.out) | exact HB.out)) hb); clear HO245; clear HO250; clear HO263; clear HO268; clear BK253; clear BK271; clear HB; have HO245 := n0_; have HO250 := n1_; have HO263 := n2_; have HO268 := n3_; have BK253 := n4_; have BK271 := n5_; have HB := n6_; clear n0_ n1_ n2_ n3_ n4_ n5_ n6_; (try clear hb); (try clear hb2); (try clear hk); (try clear hi); have hcz30_0 : w29.cell? ⟨gb253, 0, none⟩ = some (.int .i64 t239) := (blk_cell BK253.out 0).trans rfl; have hcz30_1 : w29.cell? ⟨gb253, 1, none⟩ = some (.int .i64 t240) := (blk_cell BK253.out 1).trans rfl; have hcz30_2 : w29.cell? ⟨gb253, 2, none⟩ = some (.int .i64 t241) := (blk_cell BK253.out 2).trans rfl; have hcz30_3 : w29.cell? ⟨gb253, 3, none⟩ = some (.int .i64 t242) := (blk_cell BK253.out 3).trans rfl; have hcz30_4 : w29.cell? ⟨gb253, 4, none⟩ = some (.slice Ao19 t243.length co19) := (blk_cell BK253.out 4).trans rfl; have hcz30_5 : w29.cell? ⟨gb253, 5, none⟩ = some (.int .i64 t246) := (blk_cell BK253.out 5).trans rfl; have hcz30_6 : w29.cell? ⟨gb253, 6, none⟩ = some (.int .i64 t247) := (blk_cell BK253.out 6).trans rfl; have hcz30_7 : w29.cell? ⟨gb253, 7, none⟩ = some (.slice Ao20 t248.length co20) := (blk_cell BK253.out 7).trans rfl; have hcz30_8 : w29.cell? ⟨gb253, 8, none⟩ = some (.int .i64 t251) := (blk_cell BK253.out 8).trans rfl; have hfz30_0 := blk_frozen BK253.out 0; have hfz30_1 := blk_frozen BK253.out 1; have hfz30_2 := blk_frozen BK253.out 2; have hfz30_3 := blk_frozen BK253.out 3; have hfz30_4 := blk_frozen BK253.out 4; have hfz30_5 := blk_frozen BK253.out 5; have hfz30_6 := blk_frozen BK253.out 6; have hfz30_7 := blk_frozen BK253.out 7; have hfz30_8 := blk_frozen BK253.out 8; have hcz31_0 : w29.cell? ⟨gb271, 0, none⟩ = some (.int .i64 t257) := (blk_cell BK271.out 0).trans rfl; have hcz31_1 : w29.cell? ⟨gb271, 1, none⟩ = some (.int .i64 t258) := (blk_cell BK271.out 1).trans rfl; have hcz31_2 : w29.cell? ⟨gb271, 2, none⟩ = some (.int .i64 t259) := (blk_cell BK271.out 2).trans rfl; have hcz31_3 : w29.cell? ⟨gb271, 3, none⟩ = some (.int .i64 t260) := (blk_cell BK271.out 3).trans rfl; have hcz31_4 : w29.cell? ⟨gb271, 4, none⟩ = some (.slice Ao27 t261.length co27) := (blk_cell BK271.out 4).trans rfl; have hcz31_5 : w29.cell? ⟨gb271, 5, none⟩ = some (.int .i64 t264) := (blk_cell BK271.out 5).trans rfl; have hcz31_6 : w29.cell? ⟨gb271, 6, none⟩ = some (.int .i64 t265) := (blk_cell BK271.out 6).trans rfl; have hcz31_7 : w29.cell? ⟨gb271, 7, none⟩ = some (.slice Ao28 t266.length co28) := (blk_cell BK271.out 7).trans rfl; have hcz31_8 : w29.cell? ⟨gb271, 8, none⟩ = some (.int .i64 t269) := (blk_cell BK271.out 8).trans rfl; have hfz31_0 := blk_frozen BK271.out 0; have hfz31_1 := blk_frozen BK271.out 1; have hfz31_2 := blk_frozen BK271.out 2; have hfz31_3 := blk_frozen BK271.out 3; have hfz31_4 := blk_frozen BK271.out 4; have hfz31_5 := blk_frozen BK271.out 5; have hfz31_6 := blk_frozen BK271.out 6; have hfz31_7 := blk_frozen BK271.out 7; have hfz31_8 := blk_frozen BK271.out 8) | (go_at_call 16; (with_reducible refine (cards_Same.calls k t239 t240 t241 t242 _ _ t243 t246 t247 _ _ t248 t251 t257 t258 t259 t260 _ _ t261 t264 t265 _ _ t266 t269 true _ ?side1 ?side2 ?side3 ?side4 ?side5 ?side6 ?side7 ?side8 A12.out).mono ?_); (case side1 => repeat (first | exact (Kd.R_reads' HO245.out).2.2 | (with_reducible refine Kd.C_alloc ?_ _) | (with_reducible refine Kd.C_drewN ?_ _) | (with_reducible refine Kd.C_drew ?_))); (case side2 => exact (Kd.R_reads' HO245.out).2.1); (case side3 => repeat (first | exact (Kd.R_reads' HO250.out).2.2 | (with_reducible refine Kd.C_alloc ?_ _) | (with_reducible refine Kd.C_drewN ?_ _) | (with_reducible refine Kd.C_drew ?_))); (case side4 => exact (Kd.R_reads' HO250.out).2.1); (case side5 => repeat (first | exact (Kd.R_reads' HO263.out).2.2 | (with_reducible refine Kd.C_alloc ?_ _) | (with_reducible refine Kd.C_drewN ?_ _) | (with_reducible refine Kd.C_drew ?_))); (case side6 => exact (Kd.R_reads' HO263.out).2.1); (case side7 => repeat (first | exact (Kd.R_reads' HO268.out).2.2 | (with_reducible refine Kd.C_alloc ?_ _) | (with_reducible refine Kd.C_drewN ?_ _) | (with_reducible refine Kd.C_drew ?_))); (case side8 => exact (Kd.R_reads' HO268.out).2.1); rintro e w32 ⟨rfl, hb⟩; have n0_ := Aside0.mk (Kd.R_below (by (with_reducible repeat (first | apply Kd.R_alloc | apply Kd.R_drewN | apply Kd.R_drew)); exact HO245.out) hb); have n1_ := Aside0.mk (Kd.R_below (by (with_reducible repeat (first | apply Kd.R_alloc | apply Kd.R_drewN | apply Kd.R_drew)); exact HO250.out) hb); have n2_ := Aside0.mk (Kd.R_below (by (with_reducible repeat (first | apply Kd.R_alloc | apply Kd.R_drewN | apply Kd.R_drew)); exact HO263.out) hb); have n3_ := Aside0.mk (Kd.R_below (by (with_reducible repeat (first | apply Kd.R_alloc | apply Kd.R_drewN | apply Kd.R_drew)); exact HO268.out) hb); have n4_ := Aside0.mk (blk_below (g := gb253) (o := .cells #[.int .i64 t239, .int .i64 t240, .int .i64 t241, .int .i64 t242, .slice Ao19 t243.length co19, .int .i64 t246, .int .i64 t247, .slice Ao20 t248.length co20, .int .i64 t251] 25 (0, 0)) (by (with_reducible repeat (first | refine blk_drewN ?_ _ | refine blk_drew ?_ | refine blk_alloc ?_ _)); exact BK253.out) hb); have n5_ := Aside0.mk (blk_below (g := gb271) (o := .cells #[.int .i64 t257, .int .i64 t258, .int .i64 t259, .int .i64 t260, .slice Ao27 t261.length co27, .int .i64 t264, .int .i64 t265, .slice Ao28 t266.length co28, .int .i64 t269] 25 (0, 0)) (by (with_reducible repeat (first | refine blk_drewN ?_ _ | refine blk_drew ?_ | refine blk_alloc ?_ _)); exact BK271.out) hb); have n6_ := Aside0.mk (below_step (by repeat (first | (with_reducible first | exact HB.out | apply below_alloc | apply pw_below_drewN | apply below_drew1 | refine below_set ?_ GE253.out | refine below_set ?_ GE271.out) | exact HB.out)) hb); clear HO245; clear HO250; clear HO263; clear HO268; clear BK253; clear BK271; clear HB; have HO245 := n0_; have HO250 := n1_; have HO263 := n2_; have HO268 := n3_; have BK253 := n4_; have BK271 := n5_; have HB := n6_; clear n0_ n1_ n2_ n3_ n4_ n5_ n6_; (try clear hb); (try clear hb2); (try clear hk); (try clear hi); have hcz33_0 : w32.cell? ⟨gb271, 0, none⟩ = some (.int .i64 t257) := (blk_cell BK271.out 0).trans rfl; have hcz33_1 : w32.cell? ⟨gb271, 1, none⟩ = some (.int .i64 t258) := (blk_cell BK271.out 1).trans rfl; have hcz33_2 : w32.cell? ⟨gb271, 2, none⟩ = some (.int .i64 t259) := (blk_cell BK271.out 2).trans rfl; have hcz33_3 : w32.cell? ⟨gb271, 3, none⟩ = some (.int .i64 t260) := (blk_cell BK271.out 3).trans rfl; have hcz33_4 : w32.cell? ⟨gb271, 4, none⟩ = some (.slice Ao27 t261.length co27) := (blk_cell BK271.out 4).trans rfl; have hcz33_5 : w32.cell? ⟨gb271, 5, none⟩ = some (.int .i64 t264) := (blk_cell BK271.out 5).trans rfl; have hcz33_6 : w32.cell? ⟨gb271, 6, none⟩ = some (.int .i64 t265) := (blk_cell BK271.out 6).trans rfl; have hcz33_7 : w32.cell? ⟨gb271, 7, none⟩ = some (.slice Ao28 t266.length co28) := (blk_cell BK271.out 7).trans rfl; have hcz33_8 : w32.cell? ⟨gb271, 8, none⟩ = some (.int .i64 t269) := (blk_cell BK271.out 8).trans rfl; have hfz33_0 := blk_frozen BK271.out 0; have hfz33_1 := blk_frozen BK271.out 1; have hfz33_2 := blk_frozen BK271.out 2; have hfz33_3 := blk_frozen BK271.out 3; have hfz33_4 := blk_frozen BK271.out 4; have hfz33_5 := blk_frozen BK271.out 5; have hfz33_6 := blk_frozen BK271.out 6; have hfz33_7 := blk_frozen BK271.out 7; have hfz33_8 := blk_frozen BK271.out 8; have hcz34_0 : w32.cell? ⟨gb253, 0, none⟩ = some (.int .i64 t239) := (blk_cell BK253.out 0).trans rfl; have hcz34_1 : w32.cell? ⟨gb253, 1, none⟩ = some (.int .i64 t240) := (blk_cell BK253.out 1).trans rfl; have hcz34_2 : w32.cell? ⟨gb253, 2, none⟩ = some (.int .i64 t241) := (blk_cell BK253.out 2).trans rfl; have hcz34_3 : w32.cell? ⟨gb253, 3, none⟩ = some (.int .i64 t242) := (blk_cell BK253.out 3).trans rfl; have hcz34_4 : w32.cell? ⟨gb253, 4, none⟩ = some (.slice Ao19 t243.length co19) := (blk_cell BK253.out 4).trans rfl; have hcz34_5 : w32.cell? ⟨gb253, 5, none⟩ = some (.int .i64 t246) := (blk_cell BK253.out 5).trans rfl; have hcz34_6 : w32.cell? ⟨gb253, 6, none⟩ = some (.int .i64 t247) := (blk_cell BK253.out 6).trans rfl; have hcz34_7 : w32.cell? ⟨gb253, 7, none⟩ = some (.slice Ao20 t248.length co20) := (blk_cell BK253.out 7).trans rfl; have hcz34_8 : w32.cell? ⟨gb253, 8, none⟩ = some (.int .i64 t251) := (blk_cell BK253.out 8).trans rfl; have hfz34_0 := blk_frozen BK253.out 0; have hfz34_1 := blk_frozen BK253.out 1; have hfz34_2 := blk_frozen BK253.out 2; have hfz34_3 := blk_frozen BK253.out 3; have hfz34_4 := blk_frozen BK253.out 4; have hfz34_5 := blk_frozen BK253.out 5; have hfz34_6 := blk_frozen BK253.out 6; have hfz34_7 := blk_frozen BK253.out 7; have hfz34_8 := blk_frozen BK253.out 8) | (go_at_call 11; (with_reducible refine (cards_Right.calls k t239 t240 t241 t242 (fun k_ => some k_ = (.slice Ao19 t243.length co19 : Value).ownBlock) _ _ t243 t246 t247 _ _ t248 t251 t274 _ ?side1 ?side2 ?side3 A15.out).mono ?_); (case side1 => exact Kd.R_V (Kd.R_tight rfl (Kd.R_types (Kd.R_types (Kd.R_apart' (Kd.R_apart' (HO245.out) (Kd.R_typed HO250.out) (by decide)) (Kd.R_typed HO268.out) (by decide)) BK253.out (by decide)) BK271.out (by decide)))); (case side2 => repeat (first | exact (Kd.R_reads' HO250.out).2.2 | (with_reducible refine Kd.C_alloc ?_ _) | (with_reducible refine Kd.C_drewN ?_ _) | (with_reducible refine Kd.C_drew ?_))); (case side3 => exact (Kd.R_reads' HO250.out).2.1); rintro e w35 ⟨rfl, hb⟩; have n0_ := Aside0.mk (Kd.R_below (by (with_reducible repeat (first | apply Kd.R_alloc | apply Kd.R_drewN | apply Kd.R_drew)); exact HO245.out) hb); have n1_ := Aside0.mk (Kd.R_below (by (with_reducible repeat (first | apply Kd.R_alloc | apply Kd.R_drewN | apply Kd.R_drew)); exact HO250.out) hb); have n2_ := Aside0.mk (Kd.R_below (by (with_reducible repeat (first | apply Kd.R_alloc | apply Kd.R_drewN | apply Kd.R_drew)); exact HO263.out) hb); have n3_ := Aside0.mk (Kd.R_below (by (with_reducible repeat (first | apply Kd.R_alloc | apply Kd.R_drewN | apply Kd.R_drew)); exact HO268.out) hb); have n4_ := Aside0.mk (blk_below (g := gb253) (o := .cells #[.int .i64 t239, .int .i64 t240, .int .i64 t241, .int .i64 t242, .slice Ao19 t243.length co19, .int .i64 t246, .int .i64 t247, .slice Ao20 t248.length co20, .int .i64 t251] 25 (0, 0)) (by (with_reducible repeat (first | refine blk_drewN ?_ _ | refine blk_drew ?_ | refine blk_alloc ?_ _)); exact BK253.out) hb); have n5_ := Aside0.mk (blk_below (g := gb271) (o := .cells #[.int .i64 t257, .int .i64 t258, .int .i64 t259, .int .i64 t260, .slice Ao27 t261.length co27, .int .i64 t264, .int .i64 t265, .slice Ao28 t266.length co28, .int .i64 t269] 25 (0, 0)) (by (with_reducible repeat (first | refine blk_drewN ?_ _ | refine blk_drew ?_ | refine blk_alloc ?_ _)); exact BK271.out) hb); have n6_ := Aside0.mk (below_step (by repeat (first | (with_reducible first | exact HB.out | apply below_alloc | apply pw_below_drewN | apply below_drew1 | refine below_set ?_ GE253.out | refine below_set ?_ GE271.out) | exact HB.out)) hb); clear HO245; clear HO250; clear HO263; clear HO268; clear BK253; clear BK271; clear HB; have HO245 := n0_; have HO250 := n1_; have HO263 := n2_; have HO268 := n3_; have BK253 := n4_; have BK271 := n5_; have HB := n6_; clear n0_ n1_ n2_ n3_ n4_ n5_ n6_; (try clear hb); (try clear hb2); (try clear hk); (try clear hi)))
                  go_ret
                  exact ⟨by first | rfl | (simp [errW_none, errW_some] <;> rfl) | (simp [*, errW_none, errW_some] <;> rfl), by repeat (first | (with_reducible first | exact HB.out | apply below_alloc | apply pw_below_drewN | apply below_drew1 | refine below_set ?_ GE253.out | refine below_set ?_ GE271.out) | exact HB.out)⟩
                · rw [if_neg c14] at H
                  exact absurd H (by simp)
              · replace c13 := Bool.eq_false_iff.mpr c13
                subst c13
                have H1 : (none) = some r := by rw [if_neg (show ¬ (false = true) by decide)] at H; exact H
                clear H
                have H := H1
                clear H1
                exact absurd H (by simp)
            · rw [if_neg c11] at H
              exact absurd H (by simp)
          · rw [if_neg c10] at H
            exact absurd H (by simp)
        · rw [if_neg c9] at H
          exact absurd H (by simp)
      · rw [if_neg c7] at H
        exact absurd H (by simp)
    · rw [if_neg c6] at H
      exact absurd H (by simp)
  · rw [if_neg c4] at H
    exact absurd H (by simp)

/-! ### cards_there: function 43 -/
def cards_there.f (a0 : ByteArray) (a1 : Int) : Option (Bool) := if (a0.size : Int) = 128 then (if a1 ≥ 0 then (some (decide (a1 < 4))) else (some false)) else (some false)
set_option maxHeartbeats 8000000 in
set_option maxRecDepth 100000 in
theorem cards_there.calls (a0 : ByteArray) (a1 : Int) (r : Bool) (w : World) (h : cards_there.f a0 a1 = some r) :
    Calls Try.prog 43 #[.string a0, .int .i64 a1] w fun e w' => e = .returned (.bool r) ∧ Drawn0 w w' := by
  have H : (if (a0.size : Int) = 128 then (if a1 ≥ 0 then (some (decide (a1 < 4))) else (some false)) else (some false)) = some r := h
  clear h
  by_cases c3 : (a0.size : Int) = 128
  · rw [if_pos c3] at H
    have c3b0 : ((a0.size : Int) == 128) = true := beq_iff_eq.mpr c3
    have c3b1 : ((a0.size : Int) != 128) = false := bne_eq_false_iff_eq.mpr c3
    clear c3
    by_cases c4 : a1 ≥ 0
    · rw [if_pos c4] at H
      have c4b0 : decide (0 ≤ a1) = true := decide_eq_true c4
      clear c4
      obtain rfl := Option.some.inj H
      go_enter Try.func43, Try.ntmps43
      go_wp2
      go_ret
      exact ⟨by first | rfl | (simp; done) | (simp [*]; done), by repeat (first | exact Drawn0.refl _ | apply Drawn0.step)⟩
    · rw [if_neg c4] at H
      have c4b0 : decide (0 ≤ a1) = false := decide_eq_false c4
      clear c4
      obtain rfl := Option.some.inj H
      go_enter Try.func43, Try.ntmps43
      go_wp2
      go_ret
      exact ⟨by first | rfl | (simp; done) | (simp [*]; done), by repeat (first | exact Drawn0.refl _ | apply Drawn0.step)⟩
  · rw [if_neg c3] at H
    have c3b0 : ((a0.size : Int) == 128) = false := beq_eq_false_iff_ne.mpr c3
    have c3b1 : ((a0.size : Int) != 128) = true := bne_iff_ne.mpr c3
    obtain rfl := Option.some.inj H
    go_enter Try.func43, Try.ntmps43
    go_wp2
    go_ret
    exact ⟨by first | rfl | (simp; done) | (simp [*]; done), by repeat (first | exact Drawn0.refl _ | apply Drawn0.step)⟩

/-! ### cards_Place: function 19 -/
def cards_Place.f (a0 : ByteArray) (a1 : Int) (a2 : ByteArray) : Option (ByteArray × Int) := (cards_there.f a0 a1).bind fun t275 => (if t275 = true then (if (a2.size : Int) = 32 then (if 0 ≤ (wrap64 (32 * a1)) then (if (wrap64 (32 * a1)) ≤ (a0.size : Int) then (if (a0.extract 0 ((wrap64 (32 * a1)) : Int).toNat).size + a2.size ≤ 9223372036854775807 then (if 0 ≤ (wrap64 ((wrap64 (32 * a1)) + 32)) then (if (wrap64 ((wrap64 (32 * a1)) + 32)) ≤ (a0.size : Int) then (if ((a0.extract 0 ((wrap64 (32 * a1)) : Int).toNat) ++ a2).size + (a0.extract ((wrap64 ((wrap64 (32 * a1)) + 32)) : Int).toNat a0.size).size ≤ 9223372036854775807 then (some (((a0.extract 0 ((wrap64 (32 * a1)) : Int).toNat) ++ a2) ++ (a0.extract ((wrap64 ((wrap64 (32 * a1)) + 32)) : Int).toNat a0.size), 0)) else (none)) else (none)) else (none)) else (none)) else (none)) else (none)) else (some ((⟨#[]⟩ : ByteArray), 1))) else (some ((⟨#[]⟩ : ByteArray), 1)))
set_option maxHeartbeats 8000000 in
set_option maxRecDepth 100000 in
theorem cards_Place.calls (a0 : ByteArray) (a1 : Int) (a2 : ByteArray) (r1 : ByteArray) (r2 : Int) (w : World) (h : cards_Place.f a0 a1 a2 = some (r1, r2)) :
    Calls Try.prog 19 #[.string a0, .int .i64 a1, .string a2] w fun e w' => e = .returned (.tuple #[.string r1, .int .i64 r2]) ∧ Drawn0 w w' := by
  have H : ((cards_there.f a0 a1).bind fun t275 => (if t275 = true then (if (a2.size : Int) = 32 then (if 0 ≤ (wrap64 (32 * a1)) then (if (wrap64 (32 * a1)) ≤ (a0.size : Int) then (if (a0.extract 0 ((wrap64 (32 * a1)) : Int).toNat).size + a2.size ≤ 9223372036854775807 then (if 0 ≤ (wrap64 ((wrap64 (32 * a1)) + 32)) then (if (wrap64 ((wrap64 (32 * a1)) + 32)) ≤ (a0.size : Int) then (if ((a0.extract 0 ((wrap64 (32 * a1)) : Int).toNat) ++ a2).size + (a0.extract ((wrap64 ((wrap64 (32 * a1)) + 32)) : Int).toNat a0.size).size ≤ 9223372036854775807 then (some (((a0.extract 0 ((wrap64 (32 * a1)) : Int).toNat) ++ a2) ++ (a0.extract ((wrap64 ((wrap64 (32 * a1)) + 32)) : Int).toNat a0.size), 0)) else (none)) else (none)) else (none)) else (none)) else (none)) else (none)) else (some ((⟨#[]⟩ : ByteArray), 1))) else (some ((⟨#[]⟩ : ByteArray), 1)))) = some (r1, r2) := h
  clear h
  replace H := Option.bind_eq_some_iff.mp H
  obtain ⟨t275, A40, H⟩ := H
  replace H : (if t275 = true then (if (a2.size : Int) = 32 then (if 0 ≤ (wrap64 (32 * a1)) then (if (wrap64 (32 * a1)) ≤ (a0.size : Int) then (if (a0.extract 0 ((wrap64 (32 * a1)) : Int).toNat).size + a2.size ≤ 9223372036854775807 then (if 0 ≤ (wrap64 ((wrap64 (32 * a1)) + 32)) then (if (wrap64 ((wrap64 (32 * a1)) + 32)) ≤ (a0.size : Int) then (if ((a0.extract 0 ((wrap64 (32 * a1)) : Int).toNat) ++ a2).size + (a0.extract ((wrap64 ((wrap64 (32 * a1)) + 32)) : Int).toNat a0.size).size ≤ 9223372036854775807 then (some (((a0.extract 0 ((wrap64 (32 * a1)) : Int).toNat) ++ a2) ++ (a0.extract ((wrap64 ((wrap64 (32 * a1)) + 32)) : Int).toNat a0.size), 0)) else (none)) else (none)) else (none)) else (none)) else (none)) else (none)) else (some ((⟨#[]⟩ : ByteArray), 1))) else (some ((⟨#[]⟩ : ByteArray), 1))) = some (r1, r2) := H
  have A4 := Aside0.mk A40
  clear A40
  by_cases c5 : t275 = true
  · subst c5
    have H1 : (if (a2.size : Int) = 32 then (if 0 ≤ (wrap64 (32 * a1)) then (if (wrap64 (32 * a1)) ≤ (a0.size : Int) then (if (a0.extract 0 ((wrap64 (32 * a1)) : Int).toNat).size + a2.size ≤ 9223372036854775807 then (if 0 ≤ (wrap64 ((wrap64 (32 * a1)) + 32)) then (if (wrap64 ((wrap64 (32 * a1)) + 32)) ≤ (a0.size : Int) then (if ((a0.extract 0 ((wrap64 (32 * a1)) : Int).toNat) ++ a2).size + (a0.extract ((wrap64 ((wrap64 (32 * a1)) + 32)) : Int).toNat a0.size).size ≤ 9223372036854775807 then (some (((a0.extract 0 ((wrap64 (32 * a1)) : Int).toNat) ++ a2) ++ (a0.extract ((wrap64 ((wrap64 (32 * a1)) + 32)) : Int).toNat a0.size), 0)) else (none)) else (none)) else (none)) else (none)) else (none)) else (none)) else (some ((⟨#[]⟩ : ByteArray), 1))) = some (r1, r2) := by rw [if_pos rfl] at H; exact H
    clear H
    have H := H1
    clear H1
    by_cases c6 : (a2.size : Int) = 32
    · rw [if_pos c6] at H
      have c6b0 : ((a2.size : Int) == 32) = true := beq_iff_eq.mpr c6
      have c6b1 : ((a2.size : Int) != 32) = false := bne_eq_false_iff_eq.mpr c6
      clear c6
      obtain ⟨ji7, hji7⟩ : ∃ j_ : Int, (wrap64 (32 * a1)) = j_ := ⟨_, rfl⟩
      replace H : (if 0 ≤ (ji7) then (if (ji7) ≤ (a0.size : Int) then (if (a0.extract 0 ((ji7) : Int).toNat).size + a2.size ≤ 9223372036854775807 then (if 0 ≤ (wrap64 ((ji7) + 32)) then (if (wrap64 ((ji7) + 32)) ≤ (a0.size : Int) then (if ((a0.extract 0 ((ji7) : Int).toNat) ++ a2).size + (a0.extract ((wrap64 ((ji7) + 32)) : Int).toNat a0.size).size ≤ 9223372036854775807 then (some (((a0.extract 0 ((ji7) : Int).toNat) ++ a2) ++ (a0.extract ((wrap64 ((ji7) + 32)) : Int).toNat a0.size), 0)) else (none)) else (none)) else (none)) else (none)) else (none)) else (none)) = some (r1, r2) := by first | (rw [hji7] at H; exact H) | (simp only [hji7] at H ⊢; exact H)
      (try rw [hji7] at A4)
      have hji7w : (IntKind.i64.wrap (32 * a1)) = ji7 := (i64_w _).trans hji7
      by_cases c8 : 0 ≤ (ji7)
      · rw [if_pos c8] at H
        have c8b0 := eq_true c8
        have c8b1 : decide (0 ≤ (ji7)) = true := decide_eq_true c8
        clear c8
        by_cases c9 : (ji7) ≤ (a0.size : Int)
        · rw [if_pos c9] at H
          have c9b0 := eq_true c9
          have c9b1 : decide ((ji7) ≤ (a0.size : Int)) = true := decide_eq_true c9
          clear c9
          by_cases c10 : (a0.extract 0 ((ji7) : Int).toNat).size + a2.size ≤ 9223372036854775807
          · rw [if_pos c10] at H
            have c10b0 := eq_true c10
            have c10b1 : decide ((a0.extract 0 ((ji7) : Int).toNat).size + a2.size ≤ 9223372036854775807) = true := decide_eq_true c10
            try have c10b2 : (9223372036854775807 < (a0.extract 0 ((ji7) : Int).toNat).size + a2.size) = False := eq_false (Nat.not_lt.2 c10)
            obtain ⟨ji11, hji11⟩ : ∃ j_ : Int, (wrap64 ((ji7) + 32)) = j_ := ⟨_, rfl⟩
            replace H : (if 0 ≤ (ji11) then (if (ji11) ≤ (a0.size : Int) then (if ((a0.extract 0 ((ji7) : Int).toNat) ++ a2).size + (a0.extract ((ji11) : Int).toNat a0.size).size ≤ 9223372036854775807 then (some (((a0.extract 0 ((ji7) : Int).toNat) ++ a2) ++ (a0.extract ((ji11) : Int).toNat a0.size), 0)) else (none)) else (none)) else (none)) = some (r1, r2) := by first | (rw [hji11] at H; exact H) | (simp only [hji11] at H ⊢; exact H)
            (try rw [hji11] at A4)
            have hji11w : (IntKind.i64.wrap ((ji7) + 32)) = ji11 := (i64_w _).trans hji11
            by_cases c12 : 0 ≤ (ji11)
            · rw [if_pos c12] at H
              have c12b0 := eq_true c12
              have c12b1 : decide (0 ≤ (ji11)) = true := decide_eq_true c12
              clear c12
              by_cases c13 : (ji11) ≤ (a0.size : Int)
              · rw [if_pos c13] at H
                have c13b0 := eq_true c13
                have c13b1 : decide ((ji11) ≤ (a0.size : Int)) = true := decide_eq_true c13
                clear c13
                by_cases c14 : ((a0.extract 0 ((ji7) : Int).toNat) ++ a2).size + (a0.extract ((ji11) : Int).toNat a0.size).size ≤ 9223372036854775807
                · rw [if_pos c14] at H
                  have c14b0 := eq_true c14
                  have c14b1 : decide (((a0.extract 0 ((ji7) : Int).toNat) ++ a2).size + (a0.extract ((ji11) : Int).toNat a0.size).size ≤ 9223372036854775807) = true := decide_eq_true c14
                  try have c14b2 : (9223372036854775807 < ((a0.extract 0 ((ji7) : Int).toNat) ++ a2).size + (a0.extract ((ji11) : Int).toNat a0.size).size) = False := eq_false (Nat.not_lt.2 c14)
                  simp only [Option.some.injEq, Prod.mk.injEq] at H
                  obtain ⟨rfl, rfl⟩ := H
                  go_enter Try.func19, Try.ntmps19
                  go_wp2_with (first | (go_at_call 43; (with_reducible refine (cards_there.calls a0 a1 true _ A4.out).mono ?_); rintro e w' ⟨rfl, ⟨nd, rfl⟩⟩; (try first | exact ⟨rfl, _, World.drewN_drewN _ _ _⟩ | exact ⟨rfl, _, Eq.trans (World.drewN_drewN _ _ _) (congrArg (World.drewN _) (Nat.add_assoc _ _ _))⟩)))
                  repeat (go_quiet (first | (go_at_call 43; (with_reducible refine (cards_there.calls a0 a1 true _ A4.out).mono ?_); rintro e w' ⟨rfl, ⟨nd, rfl⟩⟩; (try first | exact ⟨rfl, _, World.drewN_drewN _ _ _⟩ | exact ⟨rfl, _, Eq.trans (World.drewN_drewN _ _ _) (congrArg (World.drewN _) (Nat.add_assoc _ _ _))⟩))); try go_wp2_with (first | (go_at_call 43; (with_reducible refine (cards_there.calls a0 a1 true _ A4.out).mono ?_); rintro e w' ⟨rfl, ⟨nd, rfl⟩⟩; (try first | exact ⟨rfl, _, World.drewN_drewN _ _ _⟩ | exact ⟨rfl, _, Eq.trans (World.drewN_drewN _ _ _) (congrArg (World.drewN _) (Nat.add_assoc _ _ _))⟩))))
                  go_ret2
                  exact ⟨by first | rfl | (simp; done) | (simp only [← hji7, ← hji11] <;> (first | rfl | simp)) | (simp [*]; done), by repeat (first | exact Drawn0.refl _ | apply Drawn0.step)⟩
                · rw [if_neg c14] at H
                  exact absurd H (by simp)
              · rw [if_neg c13] at H
                exact absurd H (by simp)
            · rw [if_neg c12] at H
              exact absurd H (by simp)
          · rw [if_neg c10] at H
            exact absurd H (by simp)
        · rw [if_neg c9] at H
          exact absurd H (by simp)
      · rw [if_neg c8] at H
        exact absurd H (by simp)
    · rw [if_neg c6] at H
      have c6b0 : ((a2.size : Int) == 32) = false := beq_eq_false_iff_ne.mpr c6
      have c6b1 : ((a2.size : Int) != 32) = true := bne_iff_ne.mpr c6
      simp only [Option.some.injEq, Prod.mk.injEq] at H
      obtain ⟨rfl, rfl⟩ := H
      go_enter Try.func19, Try.ntmps19
      go_wp2_with (first | (go_at_call 43; (with_reducible refine (cards_there.calls a0 a1 true _ A4.out).mono ?_); rintro e w' ⟨rfl, ⟨nd, rfl⟩⟩; (try first | exact ⟨rfl, _, World.drewN_drewN _ _ _⟩ | exact ⟨rfl, _, Eq.trans (World.drewN_drewN _ _ _) (congrArg (World.drewN _) (Nat.add_assoc _ _ _))⟩)))
      repeat (go_quiet (first | (go_at_call 43; (with_reducible refine (cards_there.calls a0 a1 true _ A4.out).mono ?_); rintro e w' ⟨rfl, ⟨nd, rfl⟩⟩; (try first | exact ⟨rfl, _, World.drewN_drewN _ _ _⟩ | exact ⟨rfl, _, Eq.trans (World.drewN_drewN _ _ _) (congrArg (World.drewN _) (Nat.add_assoc _ _ _))⟩))); try go_wp2_with (first | (go_at_call 43; (with_reducible refine (cards_there.calls a0 a1 true _ A4.out).mono ?_); rintro e w' ⟨rfl, ⟨nd, rfl⟩⟩; (try first | exact ⟨rfl, _, World.drewN_drewN _ _ _⟩ | exact ⟨rfl, _, Eq.trans (World.drewN_drewN _ _ _) (congrArg (World.drewN _) (Nat.add_assoc _ _ _))⟩))))
      go_ret2
      exact ⟨by first | rfl | (simp; done) | (simp [*]; done), by repeat (first | exact Drawn0.refl _ | apply Drawn0.step)⟩
  · replace c5 := Bool.eq_false_iff.mpr c5
    subst c5
    have H1 : (some ((⟨#[]⟩ : ByteArray), 1)) = some (r1, r2) := by rw [if_neg (show ¬ (false = true) by decide)] at H; exact H
    clear H
    have H := H1
    clear H1
    simp only [Option.some.injEq, Prod.mk.injEq] at H
    obtain ⟨rfl, rfl⟩ := H
    go_enter Try.func19, Try.ntmps19
    go_wp2_with (first | (go_at_call 43; (with_reducible refine (cards_there.calls a0 a1 false _ A4.out).mono ?_); rintro e w' ⟨rfl, ⟨nd, rfl⟩⟩; (try first | exact ⟨rfl, _, World.drewN_drewN _ _ _⟩ | exact ⟨rfl, _, Eq.trans (World.drewN_drewN _ _ _) (congrArg (World.drewN _) (Nat.add_assoc _ _ _))⟩)))
    repeat (go_quiet (first | (go_at_call 43; (with_reducible refine (cards_there.calls a0 a1 false _ A4.out).mono ?_); rintro e w' ⟨rfl, ⟨nd, rfl⟩⟩; (try first | exact ⟨rfl, _, World.drewN_drewN _ _ _⟩ | exact ⟨rfl, _, Eq.trans (World.drewN_drewN _ _ _) (congrArg (World.drewN _) (Nat.add_assoc _ _ _))⟩))); try go_wp2_with (first | (go_at_call 43; (with_reducible refine (cards_there.calls a0 a1 false _ A4.out).mono ?_); rintro e w' ⟨rfl, ⟨nd, rfl⟩⟩; (try first | exact ⟨rfl, _, World.drewN_drewN _ _ _⟩ | exact ⟨rfl, _, Eq.trans (World.drewN_drewN _ _ _) (congrArg (World.drewN _) (Nat.add_assoc _ _ _))⟩))))
    go_ret2
    exact ⟨by first | rfl | (simp; done) | (simp [*]; done), by repeat (first | exact Drawn0.refl _ | apply Drawn0.step)⟩

/-! ### cards_Pick: function 20 -/
def cards_Pick.f (a0 : ByteArray) (a1 : Int) : Option (ByteArray × Int) := (cards_there.f a0 a1).bind fun t276 => (if t276 = true then (if 0 ≤ (wrap64 (32 * a1)) then (if (wrap64 (32 * a1)) ≤ (wrap64 ((wrap64 (32 * a1)) + 32)) then (if (wrap64 ((wrap64 (32 * a1)) + 32)) ≤ (a0.size : Int) then (some (a0.extract ((wrap64 (32 * a1)) : Int).toNat ((wrap64 ((wrap64 (32 * a1)) + 32)) : Int).toNat, 0)) else (none)) else (none)) else (none)) else (some ((⟨#[]⟩ : ByteArray), 1)))
set_option maxHeartbeats 8000000 in
set_option maxRecDepth 100000 in
theorem cards_Pick.calls (a0 : ByteArray) (a1 : Int) (r1 : ByteArray) (r2 : Int) (w : World) (h : cards_Pick.f a0 a1 = some (r1, r2)) :
    Calls Try.prog 20 #[.string a0, .int .i64 a1] w fun e w' => e = .returned (.tuple #[.string r1, .int .i64 r2]) ∧ Drawn0 w w' := by
  have H : ((cards_there.f a0 a1).bind fun t276 => (if t276 = true then (if 0 ≤ (wrap64 (32 * a1)) then (if (wrap64 (32 * a1)) ≤ (wrap64 ((wrap64 (32 * a1)) + 32)) then (if (wrap64 ((wrap64 (32 * a1)) + 32)) ≤ (a0.size : Int) then (some (a0.extract ((wrap64 (32 * a1)) : Int).toNat ((wrap64 ((wrap64 (32 * a1)) + 32)) : Int).toNat, 0)) else (none)) else (none)) else (none)) else (some ((⟨#[]⟩ : ByteArray), 1)))) = some (r1, r2) := h
  clear h
  replace H := Option.bind_eq_some_iff.mp H
  obtain ⟨t276, A30, H⟩ := H
  replace H : (if t276 = true then (if 0 ≤ (wrap64 (32 * a1)) then (if (wrap64 (32 * a1)) ≤ (wrap64 ((wrap64 (32 * a1)) + 32)) then (if (wrap64 ((wrap64 (32 * a1)) + 32)) ≤ (a0.size : Int) then (some (a0.extract ((wrap64 (32 * a1)) : Int).toNat ((wrap64 ((wrap64 (32 * a1)) + 32)) : Int).toNat, 0)) else (none)) else (none)) else (none)) else (some ((⟨#[]⟩ : ByteArray), 1))) = some (r1, r2) := H
  have A3 := Aside0.mk A30
  clear A30
  by_cases c4 : t276 = true
  · subst c4
    have H1 : (if 0 ≤ (wrap64 (32 * a1)) then (if (wrap64 (32 * a1)) ≤ (wrap64 ((wrap64 (32 * a1)) + 32)) then (if (wrap64 ((wrap64 (32 * a1)) + 32)) ≤ (a0.size : Int) then (some (a0.extract ((wrap64 (32 * a1)) : Int).toNat ((wrap64 ((wrap64 (32 * a1)) + 32)) : Int).toNat, 0)) else (none)) else (none)) else (none)) = some (r1, r2) := by rw [if_pos rfl] at H; exact H
    clear H
    have H := H1
    clear H1
    obtain ⟨ji5, hji5⟩ : ∃ j_ : Int, (wrap64 (32 * a1)) = j_ := ⟨_, rfl⟩
    replace H : (if 0 ≤ (ji5) then (if (ji5) ≤ (wrap64 ((ji5) + 32)) then (if (wrap64 ((ji5) + 32)) ≤ (a0.size : Int) then (some (a0.extract ((ji5) : Int).toNat ((wrap64 ((ji5) + 32)) : Int).toNat, 0)) else (none)) else (none)) else (none)) = some (r1, r2) := by first | (rw [hji5] at H; exact H) | (simp only [hji5] at H ⊢; exact H)
    (try rw [hji5] at A3)
    have hji5w : (IntKind.i64.wrap (32 * a1)) = ji5 := (i64_w _).trans hji5
    by_cases c6 : 0 ≤ (ji5)
    · rw [if_pos c6] at H
      have c6b0 := eq_true c6
      have c6b1 : decide (0 ≤ (ji5)) = true := decide_eq_true c6
      clear c6
      by_cases c7 : (ji5) ≤ (wrap64 ((ji5) + 32))
      · rw [if_pos c7] at H
        have c7b0 := eq_true c7
        have c7b1 : decide ((ji5) ≤ (wrap64 ((ji5) + 32))) = true := decide_eq_true c7
        by_cases c8 : (wrap64 ((ji5) + 32)) ≤ (a0.size : Int)
        · rw [if_pos c8] at H
          have c8b0 := eq_true c8
          have c8b1 : decide ((wrap64 ((ji5) + 32)) ≤ (a0.size : Int)) = true := decide_eq_true c8
          simp only [Option.some.injEq, Prod.mk.injEq] at H
          obtain ⟨rfl, rfl⟩ := H
          go_enter Try.func20, Try.ntmps20
          go_wp2_with (first | ((with_reducible refine gate_callee (f := 43) rfl ?_); refine goesL_ (some 8) rfl rfl Try.func43 (by kernel_rfl) rfl #[.string a0, .int .i64 a1] rfl (by (try simp only [List.map_toArray, List.map_cons, List.map_nil]); first | done | rfl | (simp only [List.length_drop, List.length_take]; rfl)) ?_; (with_reducible refine (cards_there.calls a0 a1 true _ A3.out).mono ?_); rintro e w' ⟨rfl, ⟨nd, rfl⟩⟩; refine ⟨_, rfl, ?_⟩))
          go_ret2
          exact ⟨by first | rfl | (simp; done) | (simp only [← hji5] <;> (first | rfl | simp)) | (simp [*]; done), by repeat (first | exact Drawn0.refl _ | apply Drawn0.step)⟩
        · rw [if_neg c8] at H
          exact absurd H (by simp)
      · rw [if_neg c7] at H
        exact absurd H (by simp)
    · rw [if_neg c6] at H
      exact absurd H (by simp)
  · replace c4 := Bool.eq_false_iff.mpr c4
    subst c4
    have H1 : (some ((⟨#[]⟩ : ByteArray), 1)) = some (r1, r2) := by rw [if_neg (show ¬ (false = true) by decide)] at H; exact H
    clear H
    have H := H1
    clear H1
    simp only [Option.some.injEq, Prod.mk.injEq] at H
    obtain ⟨rfl, rfl⟩ := H
    go_enter Try.func20, Try.ntmps20
    go_wp2_with (first | ((with_reducible refine gate_callee (f := 43) rfl ?_); refine goesL_ (some 8) rfl rfl Try.func43 (by kernel_rfl) rfl #[.string a0, .int .i64 a1] rfl (by (try simp only [List.map_toArray, List.map_cons, List.map_nil]); first | done | rfl | (simp only [List.length_drop, List.length_take]; rfl)) ?_; (with_reducible refine (cards_there.calls a0 a1 false _ A3.out).mono ?_); rintro e w' ⟨rfl, ⟨nd, rfl⟩⟩; refine ⟨_, rfl, ?_⟩))
    go_ret2
    exact ⟨by first | rfl | (simp; done) | (simp [*]; done), by repeat (first | exact Drawn0.refl _ | apply Drawn0.step)⟩

/-! ### wainwrightlaw09_CardsPlace: function 7 -/
mutual
def wainwrightlaw09_CardsPlace.j0 : Nat → ByteArray → Int → ByteArray → ByteArray → Int → Bool → Option (Bool)
  | 0, _, _, _, _, _, _ => none
  | k + 1, x0, x1, x2, x7, x8, x40 => if x40 = true then ((cards_Pick.f x0 x1).bind fun bt280 => (if x8 = 1 then (if x7.toList = ([] : List UInt8) then (if bt280.2 = 1 then (some true) else (if (x0.size : Int) = 128 then (if x1 ≥ 0 then (some (decide (x1 ≤ 3))) else (some false)) else (some false))) else (some false)) else (some false))) else (wainwrightlaw09_CardsPlace.l0 k x0 x1 x2 x7 x8 0)
def wainwrightlaw09_CardsPlace.l0 : Nat → ByteArray → Int → ByteArray → ByteArray → Int → Int → Option (Bool)
  | 0, _, _, _, _, _, _ => none
  | k + 1, x0, x1, x2, x7, x8, x11 => if x11 < 4 then ((cards_Pick.f x0 x11).bind fun bt282 => ((cards_Pick.f x7 x11).bind fun bt284 => (if bt282.2 = 0 then (if bt284.2 = 0 then (if x11 = x1 then (if bt284.1.toList = x2.toList then (if 0 ≤ (wrap64 (32 * x11)) then (if (wrap64 (32 * x11)) ≤ (wrap64 ((wrap64 (32 * x11)) + 32)) then (if (wrap64 ((wrap64 (32 * x11)) + 32)) ≤ (x0.size : Int) then (if bt282.1.toList = (x0.extract ((wrap64 (32 * x11)) : Int).toNat ((wrap64 ((wrap64 (32 * x11)) + 32)) : Int).toNat).toList then (wainwrightlaw09_CardsPlace.l0 k x0 x1 x2 x7 x8 (wrap64 (x11 + 1))) else (some false)) else (none)) else (none)) else (none)) else (some false)) else (if bt282.1.toList = bt284.1.toList then (if 0 ≤ (wrap64 (32 * x11)) then (if (wrap64 (32 * x11)) ≤ (wrap64 ((wrap64 (32 * x11)) + 32)) then (if (wrap64 ((wrap64 (32 * x11)) + 32)) ≤ (x0.size : Int) then (if bt282.1.toList = (x0.extract ((wrap64 (32 * x11)) : Int).toNat ((wrap64 ((wrap64 (32 * x11)) + 32)) : Int).toNat).toList then (wainwrightlaw09_CardsPlace.l0 k x0 x1 x2 x7 x8 (wrap64 (x11 + 1))) else (some false)) else (none)) else (none)) else (none)) else (some false))) else (some false)) else (some false)))) else (if x8 = 0 then (some ((x7.size : Int) == 128)) else (some false))
end
def wainwrightlaw09_CardsPlace.f (k : Nat) (a0 : ByteArray) (a1 : Int) (a2 : ByteArray) : Option (Bool) := (wainwrightlaw09_lives.f k).bind fun t277 => (if t277 = true then ((cards_Place.f a0 a1 a2).bind fun bt278 => (if (a0.size : Int) = 128 then (if a1 < 0 then (wainwrightlaw09_CardsPlace.j0 k a0 a1 a2 bt278.1 bt278.2 true) else (if a1 > 3 then (wainwrightlaw09_CardsPlace.j0 k a0 a1 a2 bt278.1 bt278.2 true) else (wainwrightlaw09_CardsPlace.j0 k a0 a1 a2 bt278.1 bt278.2 ((a2.size : Int) != 32)))) else (wainwrightlaw09_CardsPlace.j0 k a0 a1 a2 bt278.1 bt278.2 true))) else (some false))
theorem wainwrightlaw09_CardsPlace.mono_l : ∀ k, (∀ y0 y1 y2 y3 y4 y5, LeO (wainwrightlaw09_CardsPlace.j0 k y0 y1 y2 y3 y4 y5) (wainwrightlaw09_CardsPlace.j0 (k + 1) y0 y1 y2 y3 y4 y5)) ∧ (∀ y0 y1 y2 y3 y4 y5, LeO (wainwrightlaw09_CardsPlace.l0 k y0 y1 y2 y3 y4 y5) (wainwrightlaw09_CardsPlace.l0 (k + 1) y0 y1 y2 y3 y4 y5))
  | 0 => ⟨fun _ _ _ _ _ _ r h => by simp [wainwrightlaw09_CardsPlace.j0] at h, fun _ _ _ _ _ _ r h => by simp [wainwrightlaw09_CardsPlace.l0] at h⟩
  | k + 1 => by
    obtain ⟨ih0, ih1⟩ := wainwrightlaw09_CardsPlace.mono_l k
    refine ⟨?_, ?_⟩
    · intro y0 y1 y2 y3 y4 y5
      unfold wainwrightlaw09_CardsPlace.j0
      repeat' first
      | (with_reducible exact ih0 _ _ _ _ _ _)
      | (with_reducible exact ih1 _ _ _ _ _ _)
      | (with_reducible exact wainwrightlaw09_lives.mono _)
      | (with_reducible exact LeO.refl _)
      | (with_reducible exact LeO.none _)
      | (with_reducible refine LeO.ite ?_ ?_)
      | (with_reducible refine LeO.bind ?_ (fun _ => ?_))
      | exact ih0 _ _ _ _ _ _
      | exact ih1 _ _ _ _ _ _
      | exact wainwrightlaw09_lives.mono _
      | exact LeO.none _
      | refine LeO.ite ?_ ?_
      | refine LeO.bind ?_ (fun _ => ?_)
    · intro y0 y1 y2 y3 y4 y5
      unfold wainwrightlaw09_CardsPlace.l0
      repeat' first
      | (with_reducible exact ih0 _ _ _ _ _ _)
      | (with_reducible exact ih1 _ _ _ _ _ _)
      | (with_reducible exact wainwrightlaw09_lives.mono _)
      | (with_reducible exact LeO.refl _)
      | (with_reducible exact LeO.none _)
      | (with_reducible refine LeO.ite ?_ ?_)
      | (with_reducible refine LeO.bind ?_ (fun _ => ?_))
      | exact ih0 _ _ _ _ _ _
      | exact ih1 _ _ _ _ _ _
      | exact wainwrightlaw09_lives.mono _
      | exact LeO.none _
      | refine LeO.ite ?_ ?_
      | refine LeO.bind ?_ (fun _ => ?_)
theorem wainwrightlaw09_CardsPlace.mono : ∀ a0 a1 a2 k, LeO (wainwrightlaw09_CardsPlace.f k a0 a1 a2) (wainwrightlaw09_CardsPlace.f (k + 1) a0 a1 a2) := by
  intro a0 a1 a2 k
  obtain ⟨ih0, ih1⟩ := wainwrightlaw09_CardsPlace.mono_l k
  unfold wainwrightlaw09_CardsPlace.f
  repeat' first
      | (with_reducible exact ih0 _ _ _ _ _ _)
      | (with_reducible exact ih1 _ _ _ _ _ _)
      | (with_reducible exact wainwrightlaw09_lives.mono _)
      | (with_reducible exact LeO.refl _)
      | (with_reducible exact LeO.none _)
      | (with_reducible refine LeO.ite ?_ ?_)
      | (with_reducible refine LeO.bind ?_ (fun _ => ?_))
      | exact ih0 _ _ _ _ _ _
      | exact ih1 _ _ _ _ _ _
      | exact wainwrightlaw09_lives.mono _
      | exact LeO.none _
      | refine LeO.ite ?_ ?_
      | refine LeO.bind ?_ (fun _ => ?_)
set_option maxHeartbeats 8000000 in
set_option maxRecDepth 100000 in
theorem wainwrightlaw09_CardsPlace.calls (k : Nat) (a0 : ByteArray) (a1 : Int) (a2 : ByteArray) (r : Bool) (w : World) (h : wainwrightlaw09_CardsPlace.f k a0 a1 a2 = some r) :
    Calls Try.prog 7 #[.string a0, .int .i64 a1, .string a2] w fun e w' => e = .returned (.bool r) ∧ Below w.heap.size w w' := by
  have HB := Aside0.mk (Below.refl w.heap.size w)
  have H : ((wainwrightlaw09_lives.f k).bind fun t277 => (if t277 = true then ((cards_Place.f a0 a1 a2).bind fun bt278 => (if (a0.size : Int) = 128 then (if a1 < 0 then (wainwrightlaw09_CardsPlace.j0 k a0 a1 a2 bt278.1 bt278.2 true) else (if a1 > 3 then (wainwrightlaw09_CardsPlace.j0 k a0 a1 a2 bt278.1 bt278.2 true) else (wainwrightlaw09_CardsPlace.j0 k a0 a1 a2 bt278.1 bt278.2 ((a2.size : Int) != 32)))) else (wainwrightlaw09_CardsPlace.j0 k a0 a1 a2 bt278.1 bt278.2 true))) else (some false))) = some r := h
  clear h
  replace H := Option.bind_eq_some_iff.mp H
  obtain ⟨t277, A40, H⟩ := H
  replace H : (if t277 = true then ((cards_Place.f a0 a1 a2).bind fun bt278 => (if (a0.size : Int) = 128 then (if a1 < 0 then (wainwrightlaw09_CardsPlace.j0 k a0 a1 a2 bt278.1 bt278.2 true) else (if a1 > 3 then (wainwrightlaw09_CardsPlace.j0 k a0 a1 a2 bt278.1 bt278.2 true) else (wainwrightlaw09_CardsPlace.j0 k a0 a1 a2 bt278.1 bt278.2 ((a2.size : Int) != 32)))) else (wainwrightlaw09_CardsPlace.j0 k a0 a1 a2 bt278.1 bt278.2 true))) else (some false)) = some r := H
  have A4 := Aside0.mk A40
  clear A40
  by_cases c5 : t277 = true
  · subst c5
    have H1 : ((cards_Place.f a0 a1 a2).bind fun bt278 => (if (a0.size : Int) = 128 then (if a1 < 0 then (wainwrightlaw09_CardsPlace.j0 k a0 a1 a2 bt278.1 bt278.2 true) else (if a1 > 3 then (wainwrightlaw09_CardsPlace.j0 k a0 a1 a2 bt278.1 bt278.2 true) else (wainwrightlaw09_CardsPlace.j0 k a0 a1 a2 bt278.1 bt278.2 ((a2.size : Int) != 32)))) else (wainwrightlaw09_CardsPlace.j0 k a0 a1 a2 bt278.1 bt278.2 true))) = some r := by rw [if_pos rfl] at H; exact H
    clear H
    have H := H1
    clear H1
    replace H := Option.bind_eq_some_iff.mp H
    obtain ⟨⟨t278, t279⟩, A60, H⟩ := H
    replace H : (if (a0.size : Int) = 128 then (if a1 < 0 then (wainwrightlaw09_CardsPlace.j0 k a0 a1 a2 t278 t279 true) else (if a1 > 3 then (wainwrightlaw09_CardsPlace.j0 k a0 a1 a2 t278 t279 true) else (wainwrightlaw09_CardsPlace.j0 k a0 a1 a2 t278 t279 ((a2.size : Int) != 32)))) else (wainwrightlaw09_CardsPlace.j0 k a0 a1 a2 t278 t279 true)) = some r := H
    have A6 := Aside0.mk A60
    clear A60
    have HC7 := Aside0.mk H
    clear H
    go_enter Try.func7, Try.ntmps7
    go_upto_region 4 with (first | ((with_reducible refine gate_callee (f := 8) rfl ?_); refine goesL_ (some 16) rfl rfl Try.func8 (by kernel_rfl) rfl #[] rfl (by (try simp only [List.map_toArray, List.map_cons, List.map_nil]); first | done | rfl | (simp only [List.length_drop, List.length_take]; rfl)) ?_; (with_reducible refine (wainwrightlaw09_lives.calls k  true _ A4.out).mono ?_); rintro e w8 ⟨rfl, hb⟩; refine ⟨_, rfl, ?_⟩; have n0_ := Aside0.mk (below_step (by repeat (first | (with_reducible first | exact HB.out | apply below_alloc | apply pw_below_drewN | apply below_drew1) | exact HB.out)) hb); clear HB; have HB := n0_; clear n0_; (try clear hb); (try clear hb2); (try clear hk); (try clear hi)) | ((with_reducible refine gate_callee (f := 19) rfl ?_); refine goesL_ (some 22) rfl rfl Try.func19 (by kernel_rfl) rfl #[.string a0, .int .i64 a1, .string a2] rfl (by (try simp only [List.map_toArray, List.map_cons, List.map_nil]); first | done | rfl | (simp only [List.length_drop, List.length_take]; rfl)) ?_; (with_reducible refine (cards_Place.calls a0 a1 a2 t278 t279 _ A6.out).mono ?_); rintro e w' ⟨rfl, ⟨nd, rfl⟩⟩; refine ⟨_, rfl, ?_⟩))
    (try simp only [Act.put, List.setIfInBounds_toArray, List.set_cons_zero, List.set_cons_succ])
    go_cut [40] (fun v40 wc => ∃ (kq : Nat) (x40_6 : Bool), v40 = .bool x40_6 ∧ Aside0 (wainwrightlaw09_CardsPlace.j0 kq a0 a1 a2 t278 t279 x40_6 = some r) ∧ Aside0 (kq ≤ k) ∧ Aside0 (Below w.heap.size w wc))
    case first =>
      have H := HC7.out
      clear HC7
      by_cases c9 : (a0.size : Int) = 128
      · rw [if_pos c9] at H
        have c9b0 : ((a0.size : Int) == 128) = true := beq_iff_eq.mpr c9
        have c9b1 : ((a0.size : Int) != 128) = false := bne_eq_false_iff_eq.mpr c9
        clear c9
        (first | rw [c9b0] | (simp only [i64_w, i32_w]; rw [c9b0]) | skip)
        by_cases c10 : a1 < 0
        · rw [if_pos c10] at H
          have c10b0 : decide (a1 < 0) = true := decide_eq_true c10
          clear c10
          have H' := Aside0.mk H
          clear H
          go_wp2
          go_meet
          case rel => exact ⟨_, (true), (by first | rfl | (simp; done) | (simp [*]; done) | exact gw_ne _ | exact gw_eq _), H', ⟨by first | omega | exact Nat.le_refl _⟩, ⟨by repeat (first | (with_reducible first | exact HB.out | apply below_alloc | apply pw_below_drewN | apply below_drew1) | exact HB.out)⟩⟩
        · rw [if_neg c10] at H
          have c10b0 : decide (a1 < 0) = false := decide_eq_false c10
          clear c10
          by_cases c11 : a1 > 3
          · rw [if_pos c11] at H
            have c11b0 : decide (3 < a1) = true := decide_eq_true c11
            clear c11
            have H' := Aside0.mk H
            clear H
            go_wp2
            go_meet
            case rel => exact ⟨_, (true), (by first | rfl | (simp; done) | (simp [*]; done) | exact gw_ne _ | exact gw_eq _), H', ⟨by first | omega | exact Nat.le_refl _⟩, ⟨by repeat (first | (with_reducible first | exact HB.out | apply below_alloc | apply pw_below_drewN | apply below_drew1) | exact HB.out)⟩⟩
          · rw [if_neg c11] at H
            have c11b0 : decide (3 < a1) = false := decide_eq_false c11
            clear c11
            have H' := Aside0.mk H
            clear H
            go_wp2
            go_meet
            case rel => exact ⟨_, (((a2.size : Int) != 32)), (by first | rfl | (simp; done) | (simp [*]; done) | exact gw_ne _ | exact gw_eq _), H', ⟨by first | omega | exact Nat.le_refl _⟩, ⟨by repeat (first | (with_reducible first | exact HB.out | apply below_alloc | apply pw_below_drewN | apply below_drew1) | exact HB.out)⟩⟩
      · rw [if_neg c9] at H
        have c9b0 : ((a0.size : Int) == 128) = false := beq_eq_false_iff_ne.mpr c9
        have c9b1 : ((a0.size : Int) != 128) = true := bne_iff_ne.mpr c9
        (first | rw [c9b0] | (simp only [i64_w, i32_w]; rw [c9b0]) | skip)
        have H' := Aside0.mk H
        clear H
        go_wp2
        go_meet
        case rel => exact ⟨_, (true), (by first | rfl | (simp; done) | (simp [*]; done) | exact gw_ne _ | exact gw_eq _), H', ⟨by first | omega | exact Nat.le_refl _⟩, ⟨by repeat (first | (with_reducible first | exact HB.out | apply below_alloc | apply pw_below_drewN | apply below_drew1) | exact HB.out)⟩⟩
    case rest =>
      clear HC7
      try clear c1
      try clear p2
      try clear c5
      try clear c7
      try clear c8
      try clear c9
      try clear c9b0
      try clear c9b1
      try clear c10
      try clear c10b0
      try clear c11
      try clear c11b0
      obtain ⟨kq, x40_6, rfl, HA, HJ6, HB⟩ := hcut
      cases kq with
      | zero => exact absurd HA.out (by simp [wainwrightlaw09_CardsPlace.j0])
      | succ kj6 =>
        have H := HA.out
        clear HA
        simp only [wainwrightlaw09_CardsPlace.j0] at H
        by_cases c12 : x40_6 = true
        · subst c12
          have H1 : ((cards_Pick.f a0 a1).bind fun bt280 => (if t279 = 1 then (if t278.toList = ([] : List UInt8) then (if bt280.2 = 1 then (some true) else (if (a0.size : Int) = 128 then (if a1 ≥ 0 then (some (decide (a1 ≤ 3))) else (some false)) else (some false))) else (some false)) else (some false))) = some r := by rw [if_pos rfl] at H; exact H
          clear H
          have H := H1
          clear H1
          replace H := Option.bind_eq_some_iff.mp H
          obtain ⟨⟨t280, t281⟩, A130, H⟩ := H
          replace H : (if t279 = 1 then (if t278.toList = ([] : List UInt8) then (if t281 = 1 then (some true) else (if (a0.size : Int) = 128 then (if a1 ≥ 0 then (some (decide (a1 ≤ 3))) else (some false)) else (some false))) else (some false)) else (some false)) = some r := H
          have A13 := Aside0.mk A130
          clear A130
          by_cases c14 : t279 = 1
          · rw [if_pos c14] at H
            have c14b0 : (t279 == 1) = true := beq_iff_eq.mpr c14
            have c14b1 : (t279 != 1) = false := bne_eq_false_iff_eq.mpr c14
            clear c14
            by_cases c15 : t278.toList = ([] : List UInt8)
            · rw [if_pos c15] at H
              have c15b0 : (t278.toList == ([] : List UInt8)) = true := beq_iff_eq.mpr c15
              have c15b1 : (t278.toList != ([] : List UInt8)) = false := bne_eq_false_iff_eq.mpr c15
              clear c15
              by_cases c16 : t281 = 1
              · rw [if_pos c16] at H
                have c16b0 : (t281 == 1) = true := beq_iff_eq.mpr c16
                have c16b1 : (t281 != 1) = false := bne_eq_false_iff_eq.mpr c16
                clear c16
                obtain rfl := Option.some.inj H
                go_wp2_with (first | ((with_reducible refine gate_callee (f := 20) rfl ?_); refine goesL_ (some 44) rfl rfl Try.func20 (by kernel_rfl) rfl #[.string a0, .int .i64 a1] rfl (by (try simp only [List.map_toArray, List.map_cons, List.map_nil]); first | done | rfl | (simp only [List.length_drop, List.length_take]; rfl)) ?_; (with_reducible refine (cards_Pick.calls a0 a1 t280 t281 _ A13.out).mono ?_); rintro e w' ⟨rfl, ⟨nd, rfl⟩⟩; refine ⟨_, rfl, ?_⟩))
                go_ret
                exact ⟨by first | rfl | (simp [errW_none, errW_some] <;> rfl) | (simp [*, errW_none, errW_some] <;> rfl), by repeat (first | (with_reducible first | exact HB.out | apply below_alloc | apply pw_below_drewN | apply below_drew1) | exact HB.out)⟩
              · rw [if_neg c16] at H
                have c16b0 : (t281 == 1) = false := beq_eq_false_iff_ne.mpr c16
                have c16b1 : (t281 != 1) = true := bne_iff_ne.mpr c16
                by_cases c17 : (a0.size : Int) = 128
                · rw [if_pos c17] at H
                  have c17b0 : ((a0.size : Int) == 128) = true := beq_iff_eq.mpr c17
                  have c17b1 : ((a0.size : Int) != 128) = false := bne_eq_false_iff_eq.mpr c17
                  clear c17
                  by_cases c18 : a1 ≥ 0
                  · rw [if_pos c18] at H
                    have c18b0 : decide (0 ≤ a1) = true := decide_eq_true c18
                    clear c18
                    obtain rfl := Option.some.inj H
                    go_wp2_with (first | ((with_reducible refine gate_callee (f := 20) rfl ?_); refine goesL_ (some 44) rfl rfl Try.func20 (by kernel_rfl) rfl #[.string a0, .int .i64 a1] rfl (by (try simp only [List.map_toArray, List.map_cons, List.map_nil]); first | done | rfl | (simp only [List.length_drop, List.length_take]; rfl)) ?_; (with_reducible refine (cards_Pick.calls a0 a1 t280 t281 _ A13.out).mono ?_); rintro e w' ⟨rfl, ⟨nd, rfl⟩⟩; refine ⟨_, rfl, ?_⟩))
                    go_ret
                    exact ⟨by first | rfl | (simp [errW_none, errW_some] <;> rfl) | (simp [*, errW_none, errW_some] <;> rfl), by repeat (first | (with_reducible first | exact HB.out | apply below_alloc | apply pw_below_drewN | apply below_drew1) | exact HB.out)⟩
                  · rw [if_neg c18] at H
                    have c18b0 : decide (0 ≤ a1) = false := decide_eq_false c18
                    clear c18
                    obtain rfl := Option.some.inj H
                    go_wp2_with (first | ((with_reducible refine gate_callee (f := 20) rfl ?_); refine goesL_ (some 44) rfl rfl Try.func20 (by kernel_rfl) rfl #[.string a0, .int .i64 a1] rfl (by (try simp only [List.map_toArray, List.map_cons, List.map_nil]); first | done | rfl | (simp only [List.length_drop, List.length_take]; rfl)) ?_; (with_reducible refine (cards_Pick.calls a0 a1 t280 t281 _ A13.out).mono ?_); rintro e w' ⟨rfl, ⟨nd, rfl⟩⟩; refine ⟨_, rfl, ?_⟩))
                    go_ret
                    exact ⟨by first | rfl | (simp [errW_none, errW_some] <;> rfl) | (simp [*, errW_none, errW_some] <;> rfl), by repeat (first | (with_reducible first | exact HB.out | apply below_alloc | apply pw_below_drewN | apply below_drew1) | exact HB.out)⟩
                · rw [if_neg c17] at H
                  have c17b0 : ((a0.size : Int) == 128) = false := beq_eq_false_iff_ne.mpr c17
                  have c17b1 : ((a0.size : Int) != 128) = true := bne_iff_ne.mpr c17
                  obtain rfl := Option.some.inj H
                  go_wp2_with (first | ((with_reducible refine gate_callee (f := 20) rfl ?_); refine goesL_ (some 44) rfl rfl Try.func20 (by kernel_rfl) rfl #[.string a0, .int .i64 a1] rfl (by (try simp only [List.map_toArray, List.map_cons, List.map_nil]); first | done | rfl | (simp only [List.length_drop, List.length_take]; rfl)) ?_; (with_reducible refine (cards_Pick.calls a0 a1 t280 t281 _ A13.out).mono ?_); rintro e w' ⟨rfl, ⟨nd, rfl⟩⟩; refine ⟨_, rfl, ?_⟩))
                  go_ret
                  exact ⟨by first | rfl | (simp [errW_none, errW_some] <;> rfl) | (simp [*, errW_none, errW_some] <;> rfl), by repeat (first | (with_reducible first | exact HB.out | apply below_alloc | apply pw_below_drewN | apply below_drew1) | exact HB.out)⟩
            · rw [if_neg c15] at H
              have c15b0 : (t278.toList == ([] : List UInt8)) = false := beq_eq_false_iff_ne.mpr c15
              have c15b1 : (t278.toList != ([] : List UInt8)) = true := bne_iff_ne.mpr c15
              obtain rfl := Option.some.inj H
              go_wp2_with (first | ((with_reducible refine gate_callee (f := 20) rfl ?_); refine goesL_ (some 44) rfl rfl Try.func20 (by kernel_rfl) rfl #[.string a0, .int .i64 a1] rfl (by (try simp only [List.map_toArray, List.map_cons, List.map_nil]); first | done | rfl | (simp only [List.length_drop, List.length_take]; rfl)) ?_; (with_reducible refine (cards_Pick.calls a0 a1 t280 t281 _ A13.out).mono ?_); rintro e w' ⟨rfl, ⟨nd, rfl⟩⟩; refine ⟨_, rfl, ?_⟩))
              go_ret
              exact ⟨by first | rfl | (simp [errW_none, errW_some] <;> rfl) | (simp [*, errW_none, errW_some] <;> rfl), by repeat (first | (with_reducible first | exact HB.out | apply below_alloc | apply pw_below_drewN | apply below_drew1) | exact HB.out)⟩
          · rw [if_neg c14] at H
            have c14b0 : (t279 == 1) = false := beq_eq_false_iff_ne.mpr c14
            have c14b1 : (t279 != 1) = true := bne_iff_ne.mpr c14
            obtain rfl := Option.some.inj H
            go_wp2_with (first | ((with_reducible refine gate_callee (f := 20) rfl ?_); refine goesL_ (some 44) rfl rfl Try.func20 (by kernel_rfl) rfl #[.string a0, .int .i64 a1] rfl (by (try simp only [List.map_toArray, List.map_cons, List.map_nil]); first | done | rfl | (simp only [List.length_drop, List.length_take]; rfl)) ?_; (with_reducible refine (cards_Pick.calls a0 a1 t280 t281 _ A13.out).mono ?_); rintro e w' ⟨rfl, ⟨nd, rfl⟩⟩; refine ⟨_, rfl, ?_⟩))
            go_ret
            exact ⟨by first | rfl | (simp [errW_none, errW_some] <;> rfl) | (simp [*, errW_none, errW_some] <;> rfl), by repeat (first | (with_reducible first | exact HB.out | apply below_alloc | apply pw_below_drewN | apply below_drew1) | exact HB.out)⟩
        · replace c12 := Bool.eq_false_iff.mpr c12
          subst c12
          have H1 : (wainwrightlaw09_CardsPlace.l0 kj6 a0 a1 a2 t278 t279 0) = some r := by rw [if_neg (show ¬ (false = true) by decide)] at H; exact H
          clear H
          have H := H1
          clear H1
          have H' := Aside0.mk H
          clear H
          go_wp2
          go_loopg [11] kj6 (fun kq v11 w' => ∃ (x11_2 : Int), v11 = .int .i64 x11_2 ∧ Aside0 (wainwrightlaw09_CardsPlace.l0 kq a0 a1 a2 t278 t279 x11_2 = some r) ∧ Aside0 (kq ≤ kj6) ∧ Aside0 (Below w.heap.size w w'))
          case atStart => exact ⟨(0), (by first | rfl | (simp; done) | (simp [*]; done) | exact gw_ne _ | exact gw_eq _), H', ⟨Nat.le_refl _⟩, ⟨by repeat (first | (with_reducible first | exact HB.out | apply below_alloc | apply pw_below_drewN | apply below_drew1) | exact HB.out)⟩⟩
          case round =>
            clear H'
            try clear c1
            try clear c2
            try clear p2
            try clear c5
            try clear c7
            try clear c8
            try clear c9
            try clear c9b0
            try clear c9b1
            try clear c10
            try clear c10b0
            try clear c11
            try clear c11b0
            try clear c12
            try clear c14
            try clear c14b0
            try clear c14b1
            try clear c15
            try clear c15b0
            try clear c15b1
            try clear c16
            try clear c16b0
            try clear c16b1
            try clear c17
            try clear c17b0
            try clear c17b1
            try clear c18
            try clear c18b0
            try clear p2
            obtain ⟨x11_2, rfl, HA, HK2, HB⟩ := hrel
            cases gk with
            | zero => exact absurd HA.out (by simp [wainwrightlaw09_CardsPlace.l0])
            | succ k2 =>
              have H := HA.out
              clear HA
              simp only [wainwrightlaw09_CardsPlace.l0] at H
              by_cases c19 : x11_2 < 4
              · rw [if_pos c19] at H
                have c19b0 : decide (x11_2 < 4) = true := decide_eq_true c19
                clear c19
                replace H := Option.bind_eq_some_iff.mp H
                obtain ⟨⟨t282, t283⟩, A200, H⟩ := H
                replace H : ((cards_Pick.f t278 x11_2).bind fun bt284 => (if t283 = 0 then (if bt284.2 = 0 then (if x11_2 = a1 then (if bt284.1.toList = a2.toList then (if 0 ≤ (wrap64 (32 * x11_2)) then (if (wrap64 (32 * x11_2)) ≤ (wrap64 ((wrap64 (32 * x11_2)) + 32)) then (if (wrap64 ((wrap64 (32 * x11_2)) + 32)) ≤ (a0.size : Int) then (if t282.toList = (a0.extract ((wrap64 (32 * x11_2)) : Int).toNat ((wrap64 ((wrap64 (32 * x11_2)) + 32)) : Int).toNat).toList then (wainwrightlaw09_CardsPlace.l0 k2 a0 a1 a2 t278 t279 (wrap64 (x11_2 + 1))) else (some false)) else (none)) else (none)) else (none)) else (some false)) else (if t282.toList = bt284.1.toList then (if 0 ≤ (wrap64 (32 * x11_2)) then (if (wrap64 (32 * x11_2)) ≤ (wrap64 ((wrap64 (32 * x11_2)) + 32)) then (if (wrap64 ((wrap64 (32 * x11_2)) + 32)) ≤ (a0.size : Int) then (if t282.toList = (a0.extract ((wrap64 (32 * x11_2)) : Int).toNat ((wrap64 ((wrap64 (32 * x11_2)) + 32)) : Int).toNat).toList then (wainwrightlaw09_CardsPlace.l0 k2 a0 a1 a2 t278 t279 (wrap64 (x11_2 + 1))) else (some false)) else (none)) else (none)) else (none)) else (some false))) else (some false)) else (some false))) = some r := H
                have A20 := Aside0.mk A200
                clear A200
                replace H := Option.bind_eq_some_iff.mp H
                obtain ⟨⟨t284, t285⟩, A210, H⟩ := H
                replace H : (if t283 = 0 then (if t285 = 0 then (if x11_2 = a1 then (if t284.toList = a2.toList then (if 0 ≤ (wrap64 (32 * x11_2)) then (if (wrap64 (32 * x11_2)) ≤ (wrap64 ((wrap64 (32 * x11_2)) + 32)) then (if (wrap64 ((wrap64 (32 * x11_2)) + 32)) ≤ (a0.size : Int) then (if t282.toList = (a0.extract ((wrap64 (32 * x11_2)) : Int).toNat ((wrap64 ((wrap64 (32 * x11_2)) + 32)) : Int).toNat).toList then (wainwrightlaw09_CardsPlace.l0 k2 a0 a1 a2 t278 t279 (wrap64 (x11_2 + 1))) else (some false)) else (none)) else (none)) else (none)) else (some false)) else (if t282.toList = t284.toList then (if 0 ≤ (wrap64 (32 * x11_2)) then (if (wrap64 (32 * x11_2)) ≤ (wrap64 ((wrap64 (32 * x11_2)) + 32)) then (if (wrap64 ((wrap64 (32 * x11_2)) + 32)) ≤ (a0.size : Int) then (if t282.toList = (a0.extract ((wrap64 (32 * x11_2)) : Int).toNat ((wrap64 ((wrap64 (32 * x11_2)) + 32)) : Int).toNat).toList then (wainwrightlaw09_CardsPlace.l0 k2 a0 a1 a2 t278 t279 (wrap64 (x11_2 + 1))) else (some false)) else (none)) else (none)) else (none)) else (some false))) else (some false)) else (some false)) = some r := H
                have A21 := Aside0.mk A210
                clear A210
                by_cases c22 : t283 = 0
                · rw [if_pos c22] at H
                  have c22b0 : (t283 == 0) = true := beq_iff_eq.mpr c22
                  have c22b1 : (t283 != 0) = false := bne_eq_false_iff_eq.mpr c22
                  clear c22
                  by_cases c23 : t285 = 0
                  · rw [if_pos c23] at H
                    have c23b0 : (t285 == 0) = true := beq_iff_eq.mpr c23
                    have c23b1 : (t285 != 0) = false := bne_eq_false_iff_eq.mpr c23
                    clear c23
                    by_cases c24 : x11_2 = a1
                    · rw [if_pos c24] at H
                      have c24b0 : (x11_2 == a1) = true := beq_iff_eq.mpr c24
                      have c24b1 : (x11_2 != a1) = false := bne_eq_false_iff_eq.mpr c24
                      clear c24
                      by_cases c25 : t284.toList = a2.toList
                      · rw [if_pos c25] at H
                        have c25b0 : (t284.toList == a2.toList) = true := beq_iff_eq.mpr c25
                        have c25b1 : (t284.toList != a2.toList) = false := bne_eq_false_iff_eq.mpr c25
                        clear c25
                        obtain ⟨ji26, hji26⟩ : ∃ j_ : Int, (wrap64 (32 * x11_2)) = j_ := ⟨_, rfl⟩
                        replace H : (if 0 ≤ (ji26) then (if (ji26) ≤ (wrap64 ((ji26) + 32)) then (if (wrap64 ((ji26) + 32)) ≤ (a0.size : Int) then (if t282.toList = (a0.extract ((ji26) : Int).toNat ((wrap64 ((ji26) + 32)) : Int).toNat).toList then (wainwrightlaw09_CardsPlace.l0 k2 a0 a1 a2 t278 t279 (wrap64 (x11_2 + 1))) else (some false)) else (none)) else (none)) else (none)) = some r := by first | (rw [hji26] at H; exact H) | (simp only [hji26] at H ⊢; exact H)
                        (try rw [hji26] at A20)
                        (try rw [hji26] at A21)
                        have hji26w : (IntKind.i64.wrap (32 * x11_2)) = ji26 := (i64_w _).trans hji26
                        by_cases c27 : 0 ≤ (ji26)
                        · rw [if_pos c27] at H
                          have c27b0 := eq_true c27
                          have c27b1 : decide (0 ≤ (ji26)) = true := decide_eq_true c27
                          clear c27
                          by_cases c28 : (ji26) ≤ (wrap64 ((ji26) + 32))
                          · rw [if_pos c28] at H
                            have c28b0 := eq_true c28
                            have c28b1 : decide ((ji26) ≤ (wrap64 ((ji26) + 32))) = true := decide_eq_true c28
                            by_cases c29 : (wrap64 ((ji26) + 32)) ≤ (a0.size : Int)
                            · rw [if_pos c29] at H
                              have c29b0 := eq_true c29
                              have c29b1 : decide ((wrap64 ((ji26) + 32)) ≤ (a0.size : Int)) = true := decide_eq_true c29
                              by_cases c30 : t282.toList = (a0.extract ((ji26) : Int).toNat ((wrap64 ((ji26) + 32)) : Int).toNat).toList
                              · rw [if_pos c30] at H
                                have c30b0 : (t282.toList == (a0.extract ((ji26) : Int).toNat ((wrap64 ((ji26) + 32)) : Int).toNat).toList) = true := beq_iff_eq.mpr c30
                                have c30b1 : (t282.toList != (a0.extract ((ji26) : Int).toNat ((wrap64 ((ji26) + 32)) : Int).toNat).toList) = false := bne_eq_false_iff_eq.mpr c30
                                clear c30
                                have H' := Aside0.mk H
                                clear H
                                go_wp2_with (first | ((with_reducible refine gate_callee (f := 20) rfl ?_); refine goesL_ (some 77) rfl rfl Try.func20 (by kernel_rfl) rfl #[.string a0, .int .i64 x11_2] rfl (by (try simp only [List.map_toArray, List.map_cons, List.map_nil]); first | done | rfl | (simp only [List.length_drop, List.length_take]; rfl)) ?_; (with_reducible refine (cards_Pick.calls a0 x11_2 t282 t283 _ A20.out).mono ?_); rintro e w' ⟨rfl, ⟨nd, rfl⟩⟩; refine ⟨_, rfl, ?_⟩) | ((with_reducible refine gate_callee (f := 20) rfl ?_); refine goesL_ (some 83) rfl rfl Try.func20 (by kernel_rfl) rfl #[.string t278, .int .i64 x11_2] rfl (by (try simp only [List.map_toArray, List.map_cons, List.map_nil]); first | done | rfl | (simp only [List.length_drop, List.length_take]; rfl)) ?_; (with_reducible refine (cards_Pick.calls t278 x11_2 t284 t285 _ A21.out).mono ?_); rintro e w' ⟨rfl, ⟨nd, rfl⟩⟩; refine ⟨_, rfl, ?_⟩))
                                go_roundg k2
                                case measure => have := HJ6.out; have := HK2.out; omega
                                case rel => exact ⟨(wrap64 (x11_2 + 1)), (by first | rfl | (simp; done) | (simp [*]; done) | exact gw_ne _ | exact gw_eq _), H', ⟨by have := HJ6.out; have := HK2.out; omega⟩, ⟨by repeat (first | (with_reducible first | exact HB.out | apply below_alloc | apply pw_below_drewN | apply below_drew1) | exact HB.out)⟩⟩
                              · rw [if_neg c30] at H
                                have c30b0 : (t282.toList == (a0.extract ((ji26) : Int).toNat ((wrap64 ((ji26) + 32)) : Int).toNat).toList) = false := beq_eq_false_iff_ne.mpr c30
                                have c30b1 : (t282.toList != (a0.extract ((ji26) : Int).toNat ((wrap64 ((ji26) + 32)) : Int).toNat).toList) = true := bne_iff_ne.mpr c30
                                obtain rfl := Option.some.inj H
                                go_wp2_with (first | ((with_reducible refine gate_callee (f := 20) rfl ?_); refine goesL_ (some 77) rfl rfl Try.func20 (by kernel_rfl) rfl #[.string a0, .int .i64 x11_2] rfl (by (try simp only [List.map_toArray, List.map_cons, List.map_nil]); first | done | rfl | (simp only [List.length_drop, List.length_take]; rfl)) ?_; (with_reducible refine (cards_Pick.calls a0 x11_2 t282 t283 _ A20.out).mono ?_); rintro e w' ⟨rfl, ⟨nd, rfl⟩⟩; refine ⟨_, rfl, ?_⟩) | ((with_reducible refine gate_callee (f := 20) rfl ?_); refine goesL_ (some 83) rfl rfl Try.func20 (by kernel_rfl) rfl #[.string t278, .int .i64 x11_2] rfl (by (try simp only [List.map_toArray, List.map_cons, List.map_nil]); first | done | rfl | (simp only [List.length_drop, List.length_take]; rfl)) ?_; (with_reducible refine (cards_Pick.calls t278 x11_2 t284 t285 _ A21.out).mono ?_); rintro e w' ⟨rfl, ⟨nd, rfl⟩⟩; refine ⟨_, rfl, ?_⟩))
                                go_ret
                                exact ⟨by first | rfl | (simp [errW_none, errW_some] <;> rfl) | (simp only [← hji26]; first | rfl | (simp [errW_none, errW_some] <;> rfl)) | (simp [*, errW_none, errW_some] <;> rfl), by repeat (first | (with_reducible first | exact HB.out | apply below_alloc | apply pw_below_drewN | apply below_drew1) | exact HB.out)⟩
                            · rw [if_neg c29] at H
                              exact absurd H (by simp)
                          · rw [if_neg c28] at H
                            exact absurd H (by simp)
                        · rw [if_neg c27] at H
                          exact absurd H (by simp)
                      · rw [if_neg c25] at H
                        have c25b0 : (t284.toList == a2.toList) = false := beq_eq_false_iff_ne.mpr c25
                        have c25b1 : (t284.toList != a2.toList) = true := bne_iff_ne.mpr c25
                        obtain rfl := Option.some.inj H
                        go_wp2_with (first | ((with_reducible refine gate_callee (f := 20) rfl ?_); refine goesL_ (some 77) rfl rfl Try.func20 (by kernel_rfl) rfl #[.string a0, .int .i64 x11_2] rfl (by (try simp only [List.map_toArray, List.map_cons, List.map_nil]); first | done | rfl | (simp only [List.length_drop, List.length_take]; rfl)) ?_; (with_reducible refine (cards_Pick.calls a0 x11_2 t282 t283 _ A20.out).mono ?_); rintro e w' ⟨rfl, ⟨nd, rfl⟩⟩; refine ⟨_, rfl, ?_⟩) | ((with_reducible refine gate_callee (f := 20) rfl ?_); refine goesL_ (some 83) rfl rfl Try.func20 (by kernel_rfl) rfl #[.string t278, .int .i64 x11_2] rfl (by (try simp only [List.map_toArray, List.map_cons, List.map_nil]); first | done | rfl | (simp only [List.length_drop, List.length_take]; rfl)) ?_; (with_reducible refine (cards_Pick.calls t278 x11_2 t284 t285 _ A21.out).mono ?_); rintro e w' ⟨rfl, ⟨nd, rfl⟩⟩; refine ⟨_, rfl, ?_⟩))
                        go_ret
                        exact ⟨by first | rfl | (simp [errW_none, errW_some] <;> rfl) | (simp [*, errW_none, errW_some] <;> rfl), by repeat (first | (with_reducible first | exact HB.out | apply below_alloc | apply pw_below_drewN | apply below_drew1) | exact HB.out)⟩
                    · rw [if_neg c24] at H
                      have c24b0 : (x11_2 == a1) = false := beq_eq_false_iff_ne.mpr c24
                      have c24b1 : (x11_2 != a1) = true := bne_iff_ne.mpr c24
                      by_cases c31 : t282.toList = t284.toList
                      · rw [if_pos c31] at H
                        have c31b0 : (t282.toList == t284.toList) = true := beq_iff_eq.mpr c31
                        have c31b1 : (t282.toList != t284.toList) = false := bne_eq_false_iff_eq.mpr c31
                        clear c31
                        obtain ⟨ji32, hji32⟩ : ∃ j_ : Int, (wrap64 (32 * x11_2)) = j_ := ⟨_, rfl⟩
                        replace H : (if 0 ≤ (ji32) then (if (ji32) ≤ (wrap64 ((ji32) + 32)) then (if (wrap64 ((ji32) + 32)) ≤ (a0.size : Int) then (if t282.toList = (a0.extract ((ji32) : Int).toNat ((wrap64 ((ji32) + 32)) : Int).toNat).toList then (wainwrightlaw09_CardsPlace.l0 k2 a0 a1 a2 t278 t279 (wrap64 (x11_2 + 1))) else (some false)) else (none)) else (none)) else (none)) = some r := by first | (rw [hji32] at H; exact H) | (simp only [hji32] at H ⊢; exact H)
                        (try rw [hji32] at A20)
                        (try rw [hji32] at A21)
                        have hji32w : (IntKind.i64.wrap (32 * x11_2)) = ji32 := (i64_w _).trans hji32
                        by_cases c33 : 0 ≤ (ji32)
                        · rw [if_pos c33] at H
                          have c33b0 := eq_true c33
                          have c33b1 : decide (0 ≤ (ji32)) = true := decide_eq_true c33
                          clear c33
                          by_cases c34 : (ji32) ≤ (wrap64 ((ji32) + 32))
                          · rw [if_pos c34] at H
                            have c34b0 := eq_true c34
                            have c34b1 : decide ((ji32) ≤ (wrap64 ((ji32) + 32))) = true := decide_eq_true c34
                            by_cases c35 : (wrap64 ((ji32) + 32)) ≤ (a0.size : Int)
                            · rw [if_pos c35] at H
                              have c35b0 := eq_true c35
                              have c35b1 : decide ((wrap64 ((ji32) + 32)) ≤ (a0.size : Int)) = true := decide_eq_true c35
                              by_cases c36 : t282.toList = (a0.extract ((ji32) : Int).toNat ((wrap64 ((ji32) + 32)) : Int).toNat).toList
                              · rw [if_pos c36] at H
                                have c36b0 : (t282.toList == (a0.extract ((ji32) : Int).toNat ((wrap64 ((ji32) + 32)) : Int).toNat).toList) = true := beq_iff_eq.mpr c36
                                have c36b1 : (t282.toList != (a0.extract ((ji32) : Int).toNat ((wrap64 ((ji32) + 32)) : Int).toNat).toList) = false := bne_eq_false_iff_eq.mpr c36
                                clear c36
                                have H' := Aside0.mk H
                                clear H
                                go_wp2_with (first | ((with_reducible refine gate_callee (f := 20) rfl ?_); refine goesL_ (some 77) rfl rfl Try.func20 (by kernel_rfl) rfl #[.string a0, .int .i64 x11_2] rfl (by (try simp only [List.map_toArray, List.map_cons, List.map_nil]); first | done | rfl | (simp only [List.length_drop, List.length_take]; rfl)) ?_; (with_reducible refine (cards_Pick.calls a0 x11_2 t282 t283 _ A20.out).mono ?_); rintro e w' ⟨rfl, ⟨nd, rfl⟩⟩; refine ⟨_, rfl, ?_⟩) | ((with_reducible refine gate_callee (f := 20) rfl ?_); refine goesL_ (some 83) rfl rfl Try.func20 (by kernel_rfl) rfl #[.string t278, .int .i64 x11_2] rfl (by (try simp only [List.map_toArray, List.map_cons, List.map_nil]); first | done | rfl | (simp only [List.length_drop, List.length_take]; rfl)) ?_; (with_reducible refine (cards_Pick.calls t278 x11_2 t284 t285 _ A21.out).mono ?_); rintro e w' ⟨rfl, ⟨nd, rfl⟩⟩; refine ⟨_, rfl, ?_⟩))
                                go_roundg k2
                                case measure => have := HJ6.out; have := HK2.out; omega
                                case rel => exact ⟨(wrap64 (x11_2 + 1)), (by first | rfl | (simp; done) | (simp [*]; done) | exact gw_ne _ | exact gw_eq _), H', ⟨by have := HJ6.out; have := HK2.out; omega⟩, ⟨by repeat (first | (with_reducible first | exact HB.out | apply below_alloc | apply pw_below_drewN | apply below_drew1) | exact HB.out)⟩⟩
                              · rw [if_neg c36] at H
                                have c36b0 : (t282.toList == (a0.extract ((ji32) : Int).toNat ((wrap64 ((ji32) + 32)) : Int).toNat).toList) = false := beq_eq_false_iff_ne.mpr c36
                                have c36b1 : (t282.toList != (a0.extract ((ji32) : Int).toNat ((wrap64 ((ji32) + 32)) : Int).toNat).toList) = true := bne_iff_ne.mpr c36
                                obtain rfl := Option.some.inj H
                                go_wp2_with (first | ((with_reducible refine gate_callee (f := 20) rfl ?_); refine goesL_ (some 77) rfl rfl Try.func20 (by kernel_rfl) rfl #[.string a0, .int .i64 x11_2] rfl (by (try simp only [List.map_toArray, List.map_cons, List.map_nil]); first | done | rfl | (simp only [List.length_drop, List.length_take]; rfl)) ?_; (with_reducible refine (cards_Pick.calls a0 x11_2 t282 t283 _ A20.out).mono ?_); rintro e w' ⟨rfl, ⟨nd, rfl⟩⟩; refine ⟨_, rfl, ?_⟩) | ((with_reducible refine gate_callee (f := 20) rfl ?_); refine goesL_ (some 83) rfl rfl Try.func20 (by kernel_rfl) rfl #[.string t278, .int .i64 x11_2] rfl (by (try simp only [List.map_toArray, List.map_cons, List.map_nil]); first | done | rfl | (simp only [List.length_drop, List.length_take]; rfl)) ?_; (with_reducible refine (cards_Pick.calls t278 x11_2 t284 t285 _ A21.out).mono ?_); rintro e w' ⟨rfl, ⟨nd, rfl⟩⟩; refine ⟨_, rfl, ?_⟩))
                                go_ret
                                exact ⟨by first | rfl | (simp [errW_none, errW_some] <;> rfl) | (simp only [← hji32]; first | rfl | (simp [errW_none, errW_some] <;> rfl)) | (simp [*, errW_none, errW_some] <;> rfl), by repeat (first | (with_reducible first | exact HB.out | apply below_alloc | apply pw_below_drewN | apply below_drew1) | exact HB.out)⟩
                            · rw [if_neg c35] at H
                              exact absurd H (by simp)
                          · rw [if_neg c34] at H
                            exact absurd H (by simp)
                        · rw [if_neg c33] at H
                          exact absurd H (by simp)
                      · rw [if_neg c31] at H
                        have c31b0 : (t282.toList == t284.toList) = false := beq_eq_false_iff_ne.mpr c31
                        have c31b1 : (t282.toList != t284.toList) = true := bne_iff_ne.mpr c31
                        obtain rfl := Option.some.inj H
                        go_wp2_with (first | ((with_reducible refine gate_callee (f := 20) rfl ?_); refine goesL_ (some 77) rfl rfl Try.func20 (by kernel_rfl) rfl #[.string a0, .int .i64 x11_2] rfl (by (try simp only [List.map_toArray, List.map_cons, List.map_nil]); first | done | rfl | (simp only [List.length_drop, List.length_take]; rfl)) ?_; (with_reducible refine (cards_Pick.calls a0 x11_2 t282 t283 _ A20.out).mono ?_); rintro e w' ⟨rfl, ⟨nd, rfl⟩⟩; refine ⟨_, rfl, ?_⟩) | ((with_reducible refine gate_callee (f := 20) rfl ?_); refine goesL_ (some 83) rfl rfl Try.func20 (by kernel_rfl) rfl #[.string t278, .int .i64 x11_2] rfl (by (try simp only [List.map_toArray, List.map_cons, List.map_nil]); first | done | rfl | (simp only [List.length_drop, List.length_take]; rfl)) ?_; (with_reducible refine (cards_Pick.calls t278 x11_2 t284 t285 _ A21.out).mono ?_); rintro e w' ⟨rfl, ⟨nd, rfl⟩⟩; refine ⟨_, rfl, ?_⟩))
                        go_ret
                        exact ⟨by first | rfl | (simp [errW_none, errW_some] <;> rfl) | (simp [*, errW_none, errW_some] <;> rfl), by repeat (first | (with_reducible first | exact HB.out | apply below_alloc | apply pw_below_drewN | apply below_drew1) | exact HB.out)⟩
                  · rw [if_neg c23] at H
                    have c23b0 : (t285 == 0) = false := beq_eq_false_iff_ne.mpr c23
                    have c23b1 : (t285 != 0) = true := bne_iff_ne.mpr c23
                    obtain rfl := Option.some.inj H
                    go_wp2_with (first | ((with_reducible refine gate_callee (f := 20) rfl ?_); refine goesL_ (some 77) rfl rfl Try.func20 (by kernel_rfl) rfl #[.string a0, .int .i64 x11_2] rfl (by (try simp only [List.map_toArray, List.map_cons, List.map_nil]); first | done | rfl | (simp only [List.length_drop, List.length_take]; rfl)) ?_; (with_reducible refine (cards_Pick.calls a0 x11_2 t282 t283 _ A20.out).mono ?_); rintro e w' ⟨rfl, ⟨nd, rfl⟩⟩; refine ⟨_, rfl, ?_⟩) | ((with_reducible refine gate_callee (f := 20) rfl ?_); refine goesL_ (some 83) rfl rfl Try.func20 (by kernel_rfl) rfl #[.string t278, .int .i64 x11_2] rfl (by (try simp only [List.map_toArray, List.map_cons, List.map_nil]); first | done | rfl | (simp only [List.length_drop, List.length_take]; rfl)) ?_; (with_reducible refine (cards_Pick.calls t278 x11_2 t284 t285 _ A21.out).mono ?_); rintro e w' ⟨rfl, ⟨nd, rfl⟩⟩; refine ⟨_, rfl, ?_⟩))
                    go_ret
                    exact ⟨by first | rfl | (simp [errW_none, errW_some] <;> rfl) | (simp [*, errW_none, errW_some] <;> rfl), by repeat (first | (with_reducible first | exact HB.out | apply below_alloc | apply pw_below_drewN | apply below_drew1) | exact HB.out)⟩
                · rw [if_neg c22] at H
                  have c22b0 : (t283 == 0) = false := beq_eq_false_iff_ne.mpr c22
                  have c22b1 : (t283 != 0) = true := bne_iff_ne.mpr c22
                  obtain rfl := Option.some.inj H
                  go_wp2_with (first | ((with_reducible refine gate_callee (f := 20) rfl ?_); refine goesL_ (some 77) rfl rfl Try.func20 (by kernel_rfl) rfl #[.string a0, .int .i64 x11_2] rfl (by (try simp only [List.map_toArray, List.map_cons, List.map_nil]); first | done | rfl | (simp only [List.length_drop, List.length_take]; rfl)) ?_; (with_reducible refine (cards_Pick.calls a0 x11_2 t282 t283 _ A20.out).mono ?_); rintro e w' ⟨rfl, ⟨nd, rfl⟩⟩; refine ⟨_, rfl, ?_⟩) | ((with_reducible refine gate_callee (f := 20) rfl ?_); refine goesL_ (some 83) rfl rfl Try.func20 (by kernel_rfl) rfl #[.string t278, .int .i64 x11_2] rfl (by (try simp only [List.map_toArray, List.map_cons, List.map_nil]); first | done | rfl | (simp only [List.length_drop, List.length_take]; rfl)) ?_; (with_reducible refine (cards_Pick.calls t278 x11_2 t284 t285 _ A21.out).mono ?_); rintro e w' ⟨rfl, ⟨nd, rfl⟩⟩; refine ⟨_, rfl, ?_⟩))
                  go_ret
                  exact ⟨by first | rfl | (simp [errW_none, errW_some] <;> rfl) | (simp [*, errW_none, errW_some] <;> rfl), by repeat (first | (with_reducible first | exact HB.out | apply below_alloc | apply pw_below_drewN | apply below_drew1) | exact HB.out)⟩
              · rw [if_neg c19] at H
                have c19b0 : decide (x11_2 < 4) = false := decide_eq_false c19
                clear c19
                by_cases c37 : t279 = 0
                · rw [if_pos c37] at H
                  have c37b0 : (t279 == 0) = true := beq_iff_eq.mpr c37
                  have c37b1 : (t279 != 0) = false := bne_eq_false_iff_eq.mpr c37
                  clear c37
                  obtain rfl := Option.some.inj H
                  go_wp2
                  go_ret
                  exact ⟨by first | rfl | (simp [errW_none, errW_some] <;> rfl) | (simp [*, errW_none, errW_some] <;> rfl), by repeat (first | (with_reducible first | exact HB.out | apply below_alloc | apply pw_below_drewN | apply below_drew1) | exact HB.out)⟩
                · rw [if_neg c37] at H
                  have c37b0 : (t279 == 0) = false := beq_eq_false_iff_ne.mpr c37
                  have c37b1 : (t279 != 0) = true := bne_iff_ne.mpr c37
                  obtain rfl := Option.some.inj H
                  go_wp2
                  go_ret
                  exact ⟨by first | rfl | (simp [errW_none, errW_some] <;> rfl) | (simp [*, errW_none, errW_some] <;> rfl), by repeat (first | (with_reducible first | exact HB.out | apply below_alloc | apply pw_below_drewN | apply below_drew1) | exact HB.out)⟩
  · replace c5 := Bool.eq_false_iff.mpr c5
    subst c5
    have H1 : (some false) = some r := by rw [if_neg (show ¬ (false = true) by decide)] at H; exact H
    clear H
    have H := H1
    clear H1
    obtain rfl := Option.some.inj H
    go_enter Try.func7, Try.ntmps7
    go_wp2_with (first | ((with_reducible refine gate_callee (f := 8) rfl ?_); refine goesL_ (some 16) rfl rfl Try.func8 (by kernel_rfl) rfl #[] rfl (by (try simp only [List.map_toArray, List.map_cons, List.map_nil]); first | done | rfl | (simp only [List.length_drop, List.length_take]; rfl)) ?_; (with_reducible refine (wainwrightlaw09_lives.calls k  false _ A4.out).mono ?_); rintro e w38 ⟨rfl, hb⟩; refine ⟨_, rfl, ?_⟩; have n0_ := Aside0.mk (below_step (by repeat (first | (with_reducible first | exact HB.out | apply below_alloc | apply pw_below_drewN | apply below_drew1) | exact HB.out)) hb); clear HB; have HB := n0_; clear n0_; (try clear hb); (try clear hb2); (try clear hk); (try clear hi)))
    go_ret
    exact ⟨by first | rfl | (simp [errW_none, errW_some] <;> rfl) | (simp [*, errW_none, errW_some] <;> rfl), by repeat (first | (with_reducible first | exact HB.out | apply below_alloc | apply pw_below_drewN | apply below_drew1) | exact HB.out)⟩

/-- THE ONE PURE STATEMENT of wainwrightlaw09_CardsPlace: yours. -/
def wainwrightlaw09_CardsPlace.Pure : Prop := ∀ (a0 : ByteArray) (a1 : Int) (a2 : ByteArray), a0.size ≤ 140737488351232 → (Lit.int .i64 a1).wf = true → a2.size ≤ 140737488351232 → ∃ k, wainwrightlaw09_CardsPlace.f k a0 a1 a2 = some true
theorem wainwrightlaw09_CardsPlace.walk (P : wainwrightlaw09_CardsPlace.Pure) (a0 : ByteArray) (a1 : Int) (a2 : ByteArray) (w : World) (w0 : a0.size ≤ 140737488351232) (w1 : (Lit.int .i64 a1).wf = true) (w2 : a2.size ≤ 140737488351232) :
    Calls Try.prog 7 #[.string a0, .int .i64 a1, .string a2] w fun e w' => e = .returned (.bool true) ∧ Below w.heap.size w w' := by
  obtain ⟨k, h⟩ := P a0 a1 a2 w0 w1 w2
  refine (wainwrightlaw09_CardsPlace.calls k a0 a1 a2 true w h).mono ?_
  rintro e w' ⟨rfl, hd⟩
  exact ⟨rfl, hd⟩

end Go.Proofs.Ytegdoodjajpnhaa.GCrp
