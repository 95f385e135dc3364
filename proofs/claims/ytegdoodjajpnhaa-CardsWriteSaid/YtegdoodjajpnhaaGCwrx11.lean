/- printed for this claim by gprint.py, a program of this session, that drives the kit's printer. -/
import Derived.Test.YtegdoodjajpnhaaGCwrx0
import Derived.Test.YtegdoodjajpnhaaGCwrx1
import Derived.Test.YtegdoodjajpnhaaGCwrx2
import Derived.Test.YtegdoodjajpnhaaGCwrx5
import Derived.Test.YtegdoodjajpnhaaGCwrx8
import Derived.Test.YtegdoodjajpnhaaGCwrx10
namespace Go.Proofs.Ytegdoodjajpnhaa.GCwr
open Go.RowKit Go.Proofs.YtegdoodjajpnhaaW.PrintWords Go.Proofs.YtegdoodjajpnhaaW.PrintLast Go.Proofs.YtegdoodjajpnhaaW.PrintMore
attribute [local go_sem] max2_int min2_int max_two min_two max_three min_three max_four min_four   -- for this text's walks alone
set_option linter.unusedVariables false
set_option linter.unusedSimpArgs false

attribute [local go_sem high] eqA48
/-! ### wainwrightlaw09_lives: function 8 -/
def wainwrightlaw09_lives.f (k : Nat)  : Option (Bool) := (cards_New.f k 1 1).bind fun bt288 => ((cards_Write.f k bt288.1 bt288.2.1 bt288.2.2.1 bt288.2.2.2.1 bt288.2.2.2.2.1 bt288.2.2.2.2.2.1 bt288.2.2.2.2.2.2.1 bt288.2.2.2.2.2.2.2.1 bt288.2.2.2.2.2.2.2.2.1).bind fun bt303 => ((wainwrightref01_Zeros.f 28).bind fun t305 => (if 4 + t305.size ≤ 9223372036854775807 then ((cards_Read.f k ((⟨#[1, 1, 1, 0]⟩ : ByteArray) ++ t305)).bind fun bt306 => (if bt288.2.2.2.2.2.2.2.2.2 = 0 then (if bt303.2 = 0 then ((wainwrightref01_Zeros.f 28).bind fun t321 => (if 4 + t321.size ≤ 9223372036854775807 then (if bt303.1.toList = ((⟨#[1, 1, 1, 0]⟩ : ByteArray) ++ t321).toList then (if bt306.2.2.2.2.2.2.2.2.2 = 0 then ((cards_Same.f k bt288.1 bt288.2.1 bt288.2.2.1 bt288.2.2.2.1 bt288.2.2.2.2.1 bt288.2.2.2.2.2.1 bt288.2.2.2.2.2.2.1 bt288.2.2.2.2.2.2.2.1 bt288.2.2.2.2.2.2.2.2.1 bt306.1 bt306.2.1 bt306.2.2.1 bt306.2.2.2.1 bt306.2.2.2.2.1 bt306.2.2.2.2.2.1 bt306.2.2.2.2.2.2.1 bt306.2.2.2.2.2.2.2.1 bt306.2.2.2.2.2.2.2.2.1).bind fun t322 => (if t322 = true then (if bt306.2.2.1 = 1 then ((cards_Right.f k bt288.1 bt288.2.1 bt288.2.2.1 bt288.2.2.2.1 bt288.2.2.2.2.1 bt288.2.2.2.2.2.1 bt288.2.2.2.2.2.2.1 bt288.2.2.2.2.2.2.2.1 bt288.2.2.2.2.2.2.2.2.1).bind fun t323 => (some t323)) else (none)) else (none))) else (none)) else (none)) else (none))) else (none)) else (none))) else (none))))
theorem wainwrightlaw09_lives.mono : ∀ k, LeO (wainwrightlaw09_lives.f k ) (wainwrightlaw09_lives.f (k + 1) ) := by
  intro  k
  unfold wainwrightlaw09_lives.f
  repeat' first
      | (with_reducible exact cards_New.mono _ _ _)
      | (with_reducible exact cards_Read.mono _ _)
      | (with_reducible exact cards_Right.mono _ _ _ _ _ _ _ _ _ _)
      | (with_reducible exact cards_Same.mono _ _ _ _ _ _ _ _ _ _ _ _ _ _ _ _ _ _ _)
      | (with_reducible exact cards_Write.mono _ _ _ _ _ _ _ _ _ _)
      | (with_reducible exact LeO.refl _)
      | (with_reducible exact LeO.none _)
      | (with_reducible refine LeO.ite ?_ ?_)
      | (with_reducible refine LeO.bind ?_ (fun _ => ?_))
      | exact cards_New.mono _ _ _
      | exact cards_Read.mono _ _
      | exact cards_Right.mono _ _ _ _ _ _ _ _ _ _
      | exact cards_Same.mono _ _ _ _ _ _ _ _ _ _ _ _ _ _ _ _ _ _ _
      | exact cards_Write.mono _ _ _ _ _ _ _ _ _ _
      | exact LeO.none _
      | refine LeO.ite ?_ ?_
      | refine LeO.bind ?_ (fun _ => ?_)
set_option maxHeartbeats 8000000 in
set_option maxRecDepth 100000 in
theorem wainwrightlaw09_lives.calls (k : Nat)  (r : Bool) (w : World) (h : wainwrightlaw09_lives.f k  = some r) :
    Calls Try.prog 8 #[] w fun e w' => e = .returned (.bool r) ∧ Below w.heap.size w w' := by
  have hu25 := Try.underlying25
  have HB := Aside0.mk (Below.refl w.heap.size w)
  have H : ((cards_New.f k 1 1).bind fun bt288 => ((cards_Write.f k bt288.1 bt288.2.1 bt288.2.2.1 bt288.2.2.2.1 bt288.2.2.2.2.1 bt288.2.2.2.2.2.1 bt288.2.2.2.2.2.2.1 bt288.2.2.2.2.2.2.2.1 bt288.2.2.2.2.2.2.2.2.1).bind fun bt303 => ((wainwrightref01_Zeros.f 28).bind fun t305 => (if 4 + t305.size ≤ 9223372036854775807 then ((cards_Read.f k ((⟨#[1, 1, 1, 0]⟩ : ByteArray) ++ t305)).bind fun bt306 => (if bt288.2.2.2.2.2.2.2.2.2 = 0 then (if bt303.2 = 0 then ((wainwrightref01_Zeros.f 28).bind fun t321 => (if 4 + t321.size ≤ 9223372036854775807 then (if bt303.1.toList = ((⟨#[1, 1, 1, 0]⟩ : ByteArray) ++ t321).toList then (if bt306.2.2.2.2.2.2.2.2.2 = 0 then ((cards_Same.f k bt288.1 bt288.2.1 bt288.2.2.1 bt288.2.2.2.1 bt288.2.2.2.2.1 bt288.2.2.2.2.2.1 bt288.2.2.2.2.2.2.1 bt288.2.2.2.2.2.2.2.1 bt288.2.2.2.2.2.2.2.2.1 bt306.1 bt306.2.1 bt306.2.2.1 bt306.2.2.2.1 bt306.2.2.2.2.1 bt306.2.2.2.2.2.1 bt306.2.2.2.2.2.2.1 bt306.2.2.2.2.2.2.2.1 bt306.2.2.2.2.2.2.2.2.1).bind fun t322 => (if t322 = true then (if bt306.2.2.1 = 1 then ((cards_Right.f k bt288.1 bt288.2.1 bt288.2.2.1 bt288.2.2.2.1 bt288.2.2.2.2.1 bt288.2.2.2.2.2.1 bt288.2.2.2.2.2.2.1 bt288.2.2.2.2.2.2.2.1 bt288.2.2.2.2.2.2.2.2.1).bind fun t323 => (some t323)) else (none)) else (none))) else (none)) else (none)) else (none))) else (none)) else (none))) else (none))))) = some r := h
  clear h
  replace H := Option.bind_eq_some_iff.mp H
  obtain ⟨⟨t288, t289, t290, t291, t292, t295, t296, t297, t300, t301⟩, A10, H⟩ := H
  replace H : ((cards_Write.f k t288 t289 t290 t291 t292 t295 t296 t297 t300).bind fun bt303 => ((wainwrightref01_Zeros.f 28).bind fun t305 => (if 4 + t305.size ≤ 9223372036854775807 then ((cards_Read.f k ((⟨#[1, 1, 1, 0]⟩ : ByteArray) ++ t305)).bind fun bt306 => (if t301 = 0 then (if bt303.2 = 0 then ((wainwrightref01_Zeros.f 28).bind fun t321 => (if 4 + t321.size ≤ 9223372036854775807 then (if bt303.1.toList = ((⟨#[1, 1, 1, 0]⟩ : ByteArray) ++ t321).toList then (if bt306.2.2.2.2.2.2.2.2.2 = 0 then ((cards_Same.f k t288 t289 t290 t291 t292 t295 t296 t297 t300 bt306.1 bt306.2.1 bt306.2.2.1 bt306.2.2.2.1 bt306.2.2.2.2.1 bt306.2.2.2.2.2.1 bt306.2.2.2.2.2.2.1 bt306.2.2.2.2.2.2.2.1 bt306.2.2.2.2.2.2.2.2.1).bind fun t322 => (if t322 = true then (if bt306.2.2.1 = 1 then ((cards_Right.f k t288 t289 t290 t291 t292 t295 t296 t297 t300).bind fun t323 => (some t323)) else (none)) else (none))) else (none)) else (none)) else (none))) else (none)) else (none))) else (none)))) = some r := H
  have A1 := Aside0.mk A10
  clear A10
  replace H := Option.bind_eq_some_iff.mp H
  obtain ⟨⟨t303, t304⟩, A20, H⟩ := H
  replace H : ((wainwrightref01_Zeros.f 28).bind fun t305 => (if 4 + t305.size ≤ 9223372036854775807 then ((cards_Read.f k ((⟨#[1, 1, 1, 0]⟩ : ByteArray) ++ t305)).bind fun bt306 => (if t301 = 0 then (if t304 = 0 then ((wainwrightref01_Zeros.f 28).bind fun t321 => (if 4 + t321.size ≤ 9223372036854775807 then (if t303.toList = ((⟨#[1, 1, 1, 0]⟩ : ByteArray) ++ t321).toList then (if bt306.2.2.2.2.2.2.2.2.2 = 0 then ((cards_Same.f k t288 t289 t290 t291 t292 t295 t296 t297 t300 bt306.1 bt306.2.1 bt306.2.2.1 bt306.2.2.2.1 bt306.2.2.2.2.1 bt306.2.2.2.2.2.1 bt306.2.2.2.2.2.2.1 bt306.2.2.2.2.2.2.2.1 bt306.2.2.2.2.2.2.2.2.1).bind fun t322 => (if t322 = true then (if bt306.2.2.1 = 1 then ((cards_Right.f k t288 t289 t290 t291 t292 t295 t296 t297 t300).bind fun t323 => (some t323)) else (none)) else (none))) else (none)) else (none)) else (none))) else (none)) else (none))) else (none))) = some r := H
  have A2 := Aside0.mk A20
  clear A20
  replace H := Option.bind_eq_some_iff.mp H
  obtain ⟨t305, A30, H⟩ := H
  replace H : (if 4 + t305.size ≤ 9223372036854775807 then ((cards_Read.f k ((⟨#[1, 1, 1, 0]⟩ : ByteArray) ++ t305)).bind fun bt306 => (if t301 = 0 then (if t304 = 0 then ((wainwrightref01_Zeros.f 28).bind fun t321 => (if 4 + t321.size ≤ 9223372036854775807 then (if t303.toList = ((⟨#[1, 1, 1, 0]⟩ : ByteArray) ++ t321).toList then (if bt306.2.2.2.2.2.2.2.2.2 = 0 then ((cards_Same.f k t288 t289 t290 t291 t292 t295 t296 t297 t300 bt306.1 bt306.2.1 bt306.2.2.1 bt306.2.2.2.1 bt306.2.2.2.2.1 bt306.2.2.2.2.2.1 bt306.2.2.2.2.2.2.1 bt306.2.2.2.2.2.2.2.1 bt306.2.2.2.2.2.2.2.2.1).bind fun t322 => (if t322 = true then (if bt306.2.2.1 = 1 then ((cards_Right.f k t288 t289 t290 t291 t292 t295 t296 t297 t300).bind fun t323 => (some t323)) else (none)) else (none))) else (none)) else (none)) else (none))) else (none)) else (none))) else (none)) = some r := H
  have A3 := Aside0.mk A30
  clear A30
  by_cases c4 : 4 + t305.size ≤ 9223372036854775807
  · rw [if_pos c4] at H
    have c4b0 := eq_true c4
    have c4b1 : decide (4 + t305.size ≤ 9223372036854775807) = true := decide_eq_true c4
    try have c4b2 : (9223372036854775807 < 4 + t305.size) = False := eq_false (Nat.not_lt.2 c4)
    replace H := Option.bind_eq_some_iff.mp H
    obtain ⟨⟨t306, t307, t308, t309, t310, t313, t314, t315, t318, t319⟩, A50, H⟩ := H
    replace H : (if t301 = 0 then (if t304 = 0 then ((wainwrightref01_Zeros.f 28).bind fun t321 => (if 4 + t321.size ≤ 9223372036854775807 then (if t303.toList = ((⟨#[1, 1, 1, 0]⟩ : ByteArray) ++ t321).toList then (if t319 = 0 then ((cards_Same.f k t288 t289 t290 t291 t292 t295 t296 t297 t300 t306 t307 t308 t309 t310 t313 t314 t315 t318).bind fun t322 => (if t322 = true then (if t308 = 1 then ((cards_Right.f k t288 t289 t290 t291 t292 t295 t296 t297 t300).bind fun t323 => (some t323)) else (none)) else (none))) else (none)) else (none)) else (none))) else (none)) else (none)) = some r := H
    have A5 := Aside0.mk A50
    clear A50
    by_cases c6 : t301 = 0
    · rw [if_pos c6] at H
      have c6b0 : (t301 == 0) = true := beq_iff_eq.mpr c6
      have c6b1 : (t301 != 0) = false := bne_eq_false_iff_eq.mpr c6
      clear c6
      by_cases c7 : t304 = 0
      · rw [if_pos c7] at H
        have c7b0 : (t304 == 0) = true := beq_iff_eq.mpr c7
        have c7b1 : (t304 != 0) = false := bne_eq_false_iff_eq.mpr c7
        clear c7
        replace H := Option.bind_eq_some_iff.mp H
        obtain ⟨t321, A80, H⟩ := H
        replace H : (if 4 + t321.size ≤ 9223372036854775807 then (if t303.toList = ((⟨#[1, 1, 1, 0]⟩ : ByteArray) ++ t321).toList then (if t319 = 0 then ((cards_Same.f k t288 t289 t290 t291 t292 t295 t296 t297 t300 t306 t307 t308 t309 t310 t313 t314 t315 t318).bind fun t322 => (if t322 = true then (if t308 = 1 then ((cards_Right.f k t288 t289 t290 t291 t292 t295 t296 t297 t300).bind fun t323 => (some t323)) else (none)) else (none))) else (none)) else (none)) else (none)) = some r := H
        have A8 := Aside0.mk A80
        clear A80
        by_cases c9 : 4 + t321.size ≤ 9223372036854775807
        · rw [if_pos c9] at H
          have c9b0 := eq_true c9
          have c9b1 : decide (4 + t321.size ≤ 9223372036854775807) = true := decide_eq_true c9
          try have c9b2 : (9223372036854775807 < 4 + t321.size) = False := eq_false (Nat.not_lt.2 c9)
          by_cases c10 : t303.toList = ((⟨#[1, 1, 1, 0]⟩ : ByteArray) ++ t321).toList
          · rw [if_pos c10] at H
            have c10b0 : (t303.toList == ((⟨#[1, 1, 1, 0]⟩ : ByteArray) ++ t321).toList) = true := beq_iff_eq.mpr c10
            have c10b1 : (t303.toList != ((⟨#[1, 1, 1, 0]⟩ : ByteArray) ++ t321).toList) = false := bne_eq_false_iff_eq.mpr c10
            clear c10
            by_cases c11 : t319 = 0
            · rw [if_pos c11] at H
              have c11b0 : (t319 == 0) = true := beq_iff_eq.mpr c11
              have c11b1 : (t319 != 0) = false := bne_eq_false_iff_eq.mpr c11
              clear c11
              replace H := Option.bind_eq_some_iff.mp H
              obtain ⟨t322, A120, H⟩ := H
              replace H : (if t322 = true then (if t308 = 1 then ((cards_Right.f k t288 t289 t290 t291 t292 t295 t296 t297 t300).bind fun t323 => (some t323)) else (none)) else (none)) = some r := H
              have A12 := Aside0.mk A120
              clear A120
              by_cases c13 : t322 = true
              · subst c13
                have H1 : (if t308 = 1 then ((cards_Right.f k t288 t289 t290 t291 t292 t295 t296 t297 t300).bind fun t323 => (some t323)) else (none)) = some r := by rw [if_pos rfl] at H; exact H
                clear H
                have H := H1
                clear H1
                by_cases c14 : t308 = 1
                · rw [if_pos c14] at H
                  have c14b0 : (t308 == 1) = true := beq_iff_eq.mpr c14
                  have c14b1 : (t308 != 1) = false := bne_eq_false_iff_eq.mpr c14
                  clear c14
                  replace H := Option.bind_eq_some_iff.mp H
                  obtain ⟨t323, A150, H⟩ := H
                  replace H : (some t323) = some r := H
                  have A15 := Aside0.mk A150
                  clear A150
                  obtain rfl := Option.some.inj H
                  go_enter Try.func8, Try.ntmps8
                  go_wp2_with (first | ((with_reducible refine gate_callee (f := 17) rfl ?_); refine goesL_ (some 8) rfl rfl Try.func17 (by kernel_rfl) rfl #[.int .i64 1, .int .i64 1] rfl (by (try simp only [List.map_toArray, List.map_cons, List.map_nil]); first | done | rfl | (simp only [List.length_drop, List.length_take]; rfl)) ?_; (with_reducible refine (cards_New.calls k 1 1 t288 t289 t290 t291 t292 t295 t296 t297 t300 t301 _ A1.out).mono ?_); rintro e w16 ⟨v293, v298, rfl, ho0, ho1, hb⟩; refine ⟨_, rfl, ?_⟩; have n0_ := Aside0.mk (Kd.R_lower ho0 (below_size (by repeat (first | (with_reducible first | exact HB.out | apply below_alloc | apply pw_below_drewN | apply below_drew1) | exact HB.out)))); have n1_ := Aside0.mk (Kd.R_lower ho1 (below_size (by repeat (first | (with_reducible first | exact HB.out | apply below_alloc | apply pw_below_drewN | apply below_drew1) | exact HB.out)))); have n2_ := Aside0.mk (below_step (by repeat (first | (with_reducible first | exact HB.out | apply below_alloc | apply pw_below_drewN | apply below_drew1) | exact HB.out)) hb); clear HB; have HO294 := n0_; have HO299 := n1_; have HB := n2_; clear n0_ n1_ n2_; (try clear hb); (try clear hb2); (try clear hk); (try clear hi); (try clear ho0); (try clear ho1)) | ((with_reducible refine gate_dst (N := 1) rfl ?_); refine box_event ?hg (N := 1) ?hd (cs := #[.int .i64 0, .int .i64 0, .int .i64 0, .int .i64 0, .slice none 0 0, .int .i64 0, .int .i64 0, .slice none 0 0, .int .i64 0]) (t := 25) ?hr ?_; (case hd => rfl); (case hg => rfl); (case hr => first | (go_simp; done) | (go_simp; rfl)); intro gb302 hg w17 hbox hb; have n0_ := Aside0.mk (Kd.R_below (by (with_reducible repeat (first | apply Kd.R_alloc | apply Kd.R_drewN | apply Kd.R_drew)); exact HO294.out) hb); have n1_ := Aside0.mk (Kd.R_below (by (with_reducible repeat (first | apply Kd.R_alloc | apply Kd.R_drewN | apply Kd.R_drew)); exact HO299.out) hb); have n2_ := Aside0.mk (below_step (by repeat (first | (with_reducible first | exact HB.out | apply below_alloc | apply pw_below_drewN | apply below_drew1) | exact HB.out)) hb); have n3_ := Aside0.mk (hbox); have n4_ := Aside0.mk ((by rw [hg]; exact (below_size (by repeat (first | (with_reducible first | exact HB.out | apply below_alloc | apply pw_below_drewN | apply below_drew1) | exact HB.out))) : w.heap.size ≤ gb302)); have n5_ := Aside0.mk ((by rw [hg]; exact (below_size (by repeat (first | (with_reducible first | exact HB.out | apply below_alloc | apply pw_below_drewN | apply below_drew1) | exact HB.out))) : w.heap.size ≤ gb302)); clear HO294; clear HO299; clear HB; have HO294 := n0_; have HO299 := n1_; have HB := n2_; have BK302 := n3_; have GW302 := n4_; have GE302 := n5_; clear n0_ n1_ n2_ n3_ n4_ n5_; clear hb hbox hg; obtain ⟨hcz18_0, hcz18_1, hcz18_2, hcz18_3, hcz18_4, hcz18_5, hcz18_6, hcz18_7, hcz18_8⟩ := cells9 BK302.out; obtain ⟨hfz18_0, hfz18_1, hfz18_2, hfz18_3, hfz18_4, hfz18_5, hfz18_6, hfz18_7, hfz18_8⟩ := frozen9 BK302.out; obtain ⟨Ao19, co19, eo19⟩ := Kd.R_slice HO294.out; subst eo19; obtain ⟨Ao20, co20, eo20⟩ := Kd.R_slice HO299.out; subst eo20) | ((with_reducible refine gate_callee (f := 9) rfl ?_); refine goesL_ (some 13) rfl rfl Try.func9 (by kernel_rfl) rfl #[.agg #[.int .i64 t288, .int .i64 t289, .int .i64 t290, .int .i64 t291, .slice Ao19 t292.length co19, .int .i64 t295, .int .i64 t296, .slice Ao20 t297.length co20, .int .i64 t300]] rfl (by (try simp only [List.map_toArray, List.map_cons, List.map_nil]); first | done | rfl | (simp only [List.length_drop, List.length_take]; rfl)) ?_; (with_reducible refine (cards_Write.calls k t288 t289 t290 t291 _ _ t292 t295 t296 _ _ t297 t300 t303 t304 _ ?side1 ?side2 ?side3 ?side4 A2.out).mono ?_); (case side1 => refine (Kd.R_reads' (e := 3) (base := w.heap.size) (ok := fun k_ => True) (n := t292.length) (c := co19) ?_).2.2; exact (by (with_reducible repeat (first | apply Kd.R_alloc | apply Kd.R_drewN | apply Kd.R_drew)); exact (Kd.R_mono (Kd.R_far9 (g := gb302) (Kd.R_types HO294.out BK302.out (by decide)) (fun _ hk => hk.2)) (fun _ h_ => h_.1)))); (case side2 => exact (Kd.R_reads' HO294.out).2.1); (case side3 => refine (Kd.R_reads' (e := 48) (base := w.heap.size) (ok := fun k_ => True) (n := t297.length) (c := co20) ?_).2.2; exact (by (with_reducible repeat (first | apply Kd.R_alloc | apply Kd.R_drewN | apply Kd.R_drew)); exact (Kd.R_mono (Kd.R_far9 (g := gb302) (Kd.R_types HO299.out BK302.out (by decide)) (fun _ hk => hk.2)) (fun _ h_ => h_.1)))); (case side4 => exact (Kd.R_reads' HO299.out).2.1); rintro e w21 ⟨rfl, hb⟩; refine ⟨_, rfl, ?_⟩; have n0_ := Aside0.mk (Kd.R_below (by (with_reducible repeat (first | apply Kd.R_alloc | apply Kd.R_drewN | apply Kd.R_drew)); exact (Kd.R_mono (Kd.R_far9 (g := gb302) (Kd.R_types HO294.out BK302.out (by decide)) (fun _ hk => hk.2)) (fun _ h_ => h_.1))) hb); have n1_ := Aside0.mk (Kd.R_below (by (with_reducible repeat (first | apply Kd.R_alloc | apply Kd.R_drewN | apply Kd.R_drew)); exact (Kd.R_mono (Kd.R_far9 (g := gb302) (Kd.R_types HO299.out BK302.out (by decide)) (fun _ hk => hk.2)) (fun _ h_ => h_.1))) hb); have n2_ := Aside0.mk (blk_below (g := gb302) (o := .cells #[.int .i64 t288, .int .i64 t289, .int .i64 t290, .int .i64 t291, .slice Ao19 t292.length co19, .int .i64 t295, .int .i64 t296, .slice Ao20 t297.length co20, .int .i64 t300] 25 (0, 0)) (by (with_reducible repeat (first | refine blk_drewN ?_ _ | refine blk_drew ?_ | refine blk_alloc ?_ _)); refine put9 (cs := #[.int .i64 0, .int .i64 0, .int .i64 0, .int .i64 0, .slice none 0 0, .int .i64 0, .int .i64 0, .slice none 0 0, .int .i64 0]) ?_ rfl; (with_reducible repeat (first | refine blk_drewN ?_ _ | refine blk_drew ?_ | refine blk_alloc ?_ _)); exact BK302.out) hb); have n3_ := Aside0.mk (below_step (by repeat (first | (with_reducible first | exact HB.out | apply below_alloc | apply pw_below_drewN | apply below_drew1 | refine below_set ?_ GE302.out) | exact HB.out)) hb); clear HO294; clear HO299; clear BK302; clear HB; have HO294 := n0_; have HO299 := n1_; have BK302 := n2_; have HB := n3_; clear n0_ n1_ n2_ n3_; (try clear hb); (try clear hb2); (try clear hk); (try clear hi)) | ((with_reducible refine gate_callee (f := 21) rfl ?_); refine goesL_ (some 17) rfl rfl Try.func21 (by kernel_rfl) rfl #[.int .i64 28] rfl (by (try simp only [List.map_toArray, List.map_cons, List.map_nil]); first | done | rfl | (simp only [List.length_drop, List.length_take]; rfl)) ?_; (with_reducible refine (wainwrightref01_Zeros.calls 28 t305 _ A3.out).mono ?_); rintro e w22 ⟨rfl, hb⟩; refine ⟨_, rfl, ?_⟩; have n0_ := Aside0.mk (Kd.R_below (by (with_reducible repeat (first | apply Kd.R_alloc | apply Kd.R_drewN | apply Kd.R_drew)); exact HO294.out) hb); have n1_ := Aside0.mk (Kd.R_below (by (with_reducible repeat (first | apply Kd.R_alloc | apply Kd.R_drewN | apply Kd.R_drew)); exact HO299.out) hb); have n2_ := Aside0.mk (blk_below (g := gb302) (o := .cells #[.int .i64 t288, .int .i64 t289, .int .i64 t290, .int .i64 t291, .slice Ao19 t292.length co19, .int .i64 t295, .int .i64 t296, .slice Ao20 t297.length co20, .int .i64 t300] 25 (0, 0)) (by (with_reducible repeat (first | refine blk_drewN ?_ _ | refine blk_drew ?_ | refine blk_alloc ?_ _)); exact BK302.out) hb); have n3_ := Aside0.mk (below_step (by repeat (first | (with_reducible first | exact HB.out | apply below_alloc | apply pw_below_drewN | apply below_drew1 | refine below_set ?_ GE302.out) | exact HB.out)) hb); clear HO294; clear HO299; clear BK302; clear HB; have HO294 := n0_; have HO299 := n1_; have BK302 := n2_; have HB := n3_; clear n0_ n1_ n2_ n3_; (try clear hb); (try clear hb2); (try clear hk); (try clear hi)) | ((with_reducible refine gate_callee (f := 13) rfl ?_); refine goesL_ (some 19) rfl rfl Try.func13 (by kernel_rfl) rfl #[.string ((⟨#[1, 1, 1, 0]⟩ : ByteArray) ++ t305)] rfl (by (try simp only [List.map_toArray, List.map_cons, List.map_nil]); first | done | rfl | (simp only [List.length_drop, List.length_take]; rfl)) ?_; (with_reducible refine (cards_Read.calls k ((⟨#[1, 1, 1, 0]⟩ : ByteArray) ++ t305) t306 t307 t308 t309 t310 t313 t314 t315 t318 t319 _ A5.out).mono ?_); rintro e w23 ⟨v311, v316, rfl, ho0, ho1, hb⟩; refine ⟨_, rfl, ?_⟩; have n0_ := Aside0.mk (Kd.R_elder' (by (with_reducible repeat (first | apply Kd.R_alloc | apply Kd.R_drewN | apply Kd.R_drew)); exact HO294.out) (Kd.R_base ho0) hb); have n1_ := Aside0.mk (Kd.R_elder' (by (with_reducible repeat (first | apply Kd.R_alloc | apply Kd.R_drewN | apply Kd.R_drew)); exact HO299.out) (Kd.R_base ho1) hb); have n2_ := Aside0.mk (Kd.R_lower (Kd.R_new' ho0 (Kd.R_lt (by (with_reducible repeat (first | apply Kd.R_alloc | apply Kd.R_drewN | apply Kd.R_drew)); exact HO294.out))) (below_size (by repeat (first | (with_reducible first | exact HB.out | apply below_alloc | apply pw_below_drewN | apply below_drew1 | refine below_set ?_ GE302.out) | exact HB.out)))); have n3_ := Aside0.mk (Kd.R_lower (Kd.R_new' ho1 (Kd.R_lt (by (with_reducible repeat (first | apply Kd.R_alloc | apply Kd.R_drewN | apply Kd.R_drew)); exact HO299.out))) (below_size (by repeat (first | (with_reducible first | exact HB.out | apply below_alloc | apply pw_below_drewN | apply below_drew1 | refine below_set ?_ GE302.out) | exact HB.out)))); have n4_ := Aside0.mk (blk_below (g := gb302) (o := .cells #[.int .i64 t288, .int .i64 t289, .int .i64 t290, .int .i64 t291, .slice Ao19 t292.length co19, .int .i64 t295, .int .i64 t296, .slice Ao20 t297.length co20, .int .i64 t300] 25 (0, 0)) (by (with_reducible repeat (first | refine blk_drewN ?_ _ | refine blk_drew ?_ | refine blk_alloc ?_ _)); exact BK302.out) hb); have n5_ := Aside0.mk (below_step (by repeat (first | (with_reducible first | exact HB.out | apply below_alloc | apply pw_below_drewN | apply below_drew1 | refine below_set ?_ GE302.out) | exact HB.out)) hb); clear HO294; clear HO299; clear BK302; clear HB; have HO294 := n0_; have HO299 := n1_; have HO312 := n2_; have HO317 := n3_; have BK302 := n4_; have HB := n5_; clear n0_ n1_ n2_ n3_ n4_ n5_; (try clear hb); (try clear hb2); (try clear hk); (try clear hi); (try clear ho0); (try clear ho1)) | ((with_reducible refine gate_dst (N := 5) rfl ?_); refine box_event ?hg (N := 5) ?hd (cs := #[.int .i64 0, .int .i64 0, .int .i64 0, .int .i64 0, .slice none 0 0, .int .i64 0, .int .i64 0, .slice none 0 0, .int .i64 0]) (t := 25) ?hr ?_; (case hd => rfl); (case hg => rfl); (case hr => first | (go_simp; done) | (go_simp; rfl)); intro gb320 hg w24 hbox hb; have n0_ := Aside0.mk (Kd.R_below (by (with_reducible repeat (first | apply Kd.R_alloc | apply Kd.R_drewN | apply Kd.R_drew)); exact HO294.out) hb); have n1_ := Aside0.mk (Kd.R_below (by (with_reducible repeat (first | apply Kd.R_alloc | apply Kd.R_drewN | apply Kd.R_drew)); exact HO299.out) hb); have n2_ := Aside0.mk (Kd.R_below (by (with_reducible repeat (first | apply Kd.R_alloc | apply Kd.R_drewN | apply Kd.R_drew)); exact HO312.out) hb); have n3_ := Aside0.mk (Kd.R_below (by (with_reducible repeat (first | apply Kd.R_alloc | apply Kd.R_drewN | apply Kd.R_drew)); exact HO317.out) hb); have n4_ := Aside0.mk (blk_below (g := gb302) (o := .cells #[.int .i64 t288, .int .i64 t289, .int .i64 t290, .int .i64 t291, .slice Ao19 t292.length co19, .int .i64 t295, .int .i64 t296, .slice Ao20 t297.length co20, .int .i64 t300] 25 (0, 0)) (by (with_reducible repeat (first | refine blk_drewN ?_ _ | refine blk_drew ?_ | refine blk_alloc ?_ _)); exact BK302.out) hb); have n5_ := Aside0.mk (below_step (by repeat (first | (with_reducible first | exact HB.out | apply below_alloc | apply pw_below_drewN | apply below_drew1 | refine below_set ?_ GE302.out) | exact HB.out)) hb); have n6_ := Aside0.mk (hbox); have n7_ := Aside0.mk ((by rw [hg]; exact (below_size (by repeat (first | (with_reducible first | exact HB.out | apply below_alloc | apply pw_below_drewN | apply below_drew1 | refine below_set ?_ GE302.out) | exact HB.out))) : w.heap.size ≤ gb320)); have n8_ := Aside0.mk ((by rw [hg]; exact (below_size (by repeat (first | (with_reducible first | exact HB.out | apply below_alloc | apply pw_below_drewN | apply below_drew1 | refine below_set ?_ GE302.out) | exact HB.out))) : w.heap.size ≤ gb320)); have n9_ := Aside0.mk ((by rw [hg]; exact Nat.ne_of_lt (blk_lt (g := gb302) (o := .cells #[.int .i64 t288, .int .i64 t289, .int .i64 t290, .int .i64 t291, .slice Ao19 t292.length co19, .int .i64 t295, .int .i64 t296, .slice Ao20 t297.length co20, .int .i64 t300] 25 (0, 0)) (by (with_reducible repeat (first | refine blk_drewN ?_ _ | refine blk_drew ?_ | refine blk_alloc ?_ _)); exact BK302.out)) : gb302 ≠ gb320)); have n10_ := Aside0.mk ((by rw [hg]; exact Nat.ne_of_gt (blk_lt (g := gb302) (o := .cells #[.int .i64 t288, .int .i64 t289, .int .i64 t290, .int .i64 t291, .slice Ao19 t292.length co19, .int .i64 t295, .int .i64 t296, .slice Ao20 t297.length co20, .int .i64 t300] 25 (0, 0)) (by (with_reducible repeat (first | refine blk_drewN ?_ _ | refine blk_drew ?_ | refine blk_alloc ?_ _)); exact BK302.out)) : gb320 ≠ gb302)); clear HO294; clear HO299; clear HO312; clear HO317; clear BK302; clear HB; have HO294 := n0_; have HO299 := n1_; have HO312 := n2_; have HO317 := n3_; have BK302 := n4_; have HB := n5_; have BK320 := n6_; have GW320 := n7_; have GE320 := n8_; have NB302_320 := n9_; have NB320_302 := n10_; clear n0_ n1_ n2_ n3_ n4_ n5_ n6_ n7_ n8_ n9_ n10_; clear hb hbox hg; have hnb25 := NB320_302.out; have hnc25 := NB302_320.out; obtain ⟨hcz26_0, hcz26_1, hcz26_2, hcz26_3, hcz26_4, hcz26_5, hcz26_6, hcz26_7, hcz26_8⟩ := cells9 BK320.out; obtain ⟨hfz26_0, hfz26_1, hfz26_2, hfz26_3, hfz26_4, hfz26_5, hfz26_6, hfz26_7, hfz26_8⟩ := frozen9 BK320.out; obtain ⟨Ao27, co27, eo27⟩ := Kd.R_slice HO312.out; subst eo27; obtain ⟨Ao28, co28, eo28⟩ := Kd.R_slice HO317.out; subst eo28) | (go_at_call 21; (with_reducible refine (wainwrightref01_Zeros.calls 28 t321 _ A8.out).mono ?_); rintro e w29 ⟨rfl, hb⟩; have n0_ := Aside0.mk (Kd.R_below (by (with_reducible repeat (first | apply Kd.R_alloc | apply Kd.R_drewN | apply Kd.R_drew)); exact (Kd.R_mono (Kd.R_far9 (g := gb320) (Kd.R_types HO294.out BK320.out (by decide)) (fun _ hk => hk.2)) (fun _ h_ => h_.1))) hb); have n1_ := Aside0.mk (Kd.R_below (by (with_reducible repeat (first | apply Kd.R_alloc | apply Kd.R_drewN | apply Kd.R_drew)); exact (Kd.R_mono (Kd.R_far9 (g := gb320) (Kd.R_types HO299.out BK320.out (by decide)) (fun _ hk => hk.2)) (fun _ h_ => h_.1))) hb); have n2_ := Aside0.mk (Kd.R_below (by (with_reducible repeat (first | apply Kd.R_alloc | apply Kd.R_drewN | apply Kd.R_drew)); exact (Kd.R_mono (Kd.R_far9 (g := gb320) (Kd.R_types HO312.out BK320.out (by decide)) (fun _ hk => hk.2)) (fun _ h_ => h_.1))) hb); have n3_ := Aside0.mk (Kd.R_below (by (with_reducible repeat (first | apply Kd.R_alloc | apply Kd.R_drewN | apply Kd.R_drew)); exact (Kd.R_mono (Kd.R_far9 (g := gb320) (Kd.R_types HO317.out BK320.out (by decide)) (fun _ hk => hk.2)) (fun _ h_ => h_.1))) hb); have n4_ := Aside0.mk (blk_below (g := gb302) (o := .cells #[.int .i64 t288, .int .i64 t289, .int .i64 t290, .int .i64 t291, .slice Ao19 t292.length co19, .int .i64 t295, .int .i64 t296, .slice Ao20 t297.length co20, .int .i64 t300] 25 (0, 0)) (by (with_reducible repeat (first | refine blk_drewN ?_ _ | refine blk_drew ?_ | refine blk_alloc ?_ _)); refine far9 ?_ NB302_320.out; (with_reducible repeat (first | refine blk_drewN ?_ _ | refine blk_drew ?_ | refine blk_alloc ?_ _)); exact BK302.out) hb); have n5_ := Aside0.mk (blk_below (g := gb320) (o := .cells #[.int .i64 t306, .int .i64 t307, .int .i64 t308, .int .i64 t309, .slice Ao27 t310.length co27, .int .i64 t313, .int .i64 t314, .slice Ao28 t315.length co28, .int .i64 t318] 25 (0, 0)) (by (with_reducible repeat (first | refine blk_drewN ?_ _ | refine blk_drew ?_ | refine blk_alloc ?_ _)); refine put9 (cs := #[.int .i64 0, .int .i64 0, .int .i64 0, .int .i64 0, .slice none 0 0, .int .i64 0, .int .i64 0, .slice none 0 0, .int .i64 0]) ?_ rfl; (with_reducible repeat (first | refine blk_drewN ?_ _ | refine blk_drew ?_ | refine blk_alloc ?_ _)); exact BK320.out) hb); have n6_ := Aside0.mk (below_step (by repeat (first | (with_reducible first | exact HB.out | apply below_alloc | apply pw_below_drewN | apply below_drew1 | refine below_set ?_ GE302.out | refine below_set ?_ GE320.out) | exact HB.out)) hb); clear HO294; clear HO299; clear HO312; clear HO317; clear BK302; clear BK320; clear HB; have HO294 := n0_; have HO299 := n1_; have HO312 := n2_; have HO317 := n3_; have BK302 := n4_; have BK320 := n5_; have HB := n6_; clear n0_ n1_ n2_ n3_ n4_ n5_ n6_; (try clear hb); (try clear hb2); (try clear hk); (try clear hi); obtain ⟨hcz30_0, hcz30_1, hcz30_2, hcz30_3, hcz30_4, hcz30_5, hcz30_6, hcz30_7, hcz30_8⟩ := cells9 BK302.out; obtain ⟨hfz30_0, hfz30_1, hfz30_2, hfz30_3, hfz30_4, hfz30_5, hfz30_6, hfz30_7, hfz30_8⟩ := frozen9 BK302.out; obtain ⟨hcz31_0, hcz31_1, hcz31_2, hcz31_3, hcz31_4, hcz31_5, hcz31_6, hcz31_7, hcz31_8⟩ := cells9 BK320.out; obtain ⟨hfz31_0, hfz31_1, hfz31_2, hfz31_3, hfz31_4, hfz31_5, hfz31_6, hfz31_7, hfz31_8⟩ := frozen9 BK320.out) | (go_at_call 16; (with_reducible refine (cards_Same.calls k t288 t289 t290 t291 _ _ t292 t295 t296 _ _ t297 t300 t306 t307 t308 t309 _ _ t310 t313 t314 _ _ t315 t318 true _ ?side1 ?side2 ?side3 ?side4 ?side5 ?side6 ?side7 ?side8 A12.out).mono ?_); (case side1 => repeat (first | exact (Kd.R_reads' HO294.out).2.2 | (with_reducible refine Kd.C_alloc ?_ _) | (with_reducible refine Kd.C_drewN ?_ _) | (with_reducible refine Kd.C_drew ?_))); (case side2 => exact (Kd.R_reads' HO294.out).2.1); (case side3 => repeat (first | exact (Kd.R_reads' HO299.out).2.2 | (with_reducible refine Kd.C_alloc ?_ _) | (with_reducible refine Kd.C_drewN ?_ _) | (with_reducible refine Kd.C_drew ?_))); (case side4 => exact (Kd.R_reads' HO299.out).2.1); (case side5 => repeat (first | exact (Kd.R_reads' HO312.out).2.2 | (with_reducible refine Kd.C_alloc ?_ _) | (with_reducible refine Kd.C_drewN ?_ _) | (with_reducible refine Kd.C_drew ?_))); (case side6 => exact (Kd.R_reads' HO312.out).2.1); (case side7 => repeat (first | exact (Kd.R_reads' HO317.out).2.2 | (with_reducible refine Kd.C_alloc ?_ _) | (with_reducible refine Kd.C_drewN ?_ _) | (with_reducible refine Kd.C_drew ?_))); (case side8 => exact (Kd.R_reads' HO317.out).2.1); rintro e w32 ⟨rfl, hb⟩; have n0_ := Aside0.mk (Kd.R_below (by (with_reducible repeat (first | apply Kd.R_alloc | apply Kd.R_drewN | apply Kd.R_drew)); exact HO294.out) hb); have n1_ := Aside0.mk (Kd.R_below (by (with_reducible repeat (first | apply Kd.R_alloc | apply Kd.R_drewN | apply Kd.R_drew)); exact HO299.out) hb); have n2_ := Aside0.mk (Kd.R_below (by (with_reducible repeat (first | apply Kd.R_alloc | apply Kd.R_drewN | apply Kd.R_drew)); exact HO312.out) hb); have n3_ := Aside0.mk (Kd.R_below (by (with_reducible repeat (first | apply Kd.R_alloc | apply Kd.R_drewN | apply Kd.R_drew)); exact HO317.out) hb); have n4_ := Aside0.mk (blk_below (g := gb302) (o := .cells #[.int .i64 t288, .int .i64 t289, .int .i64 t290, .int .i64 t291, .slice Ao19 t292.length co19, .int .i64 t295, .int .i64 t296, .slice Ao20 t297.length co20, .int .i64 t300] 25 (0, 0)) (by (with_reducible repeat (first | refine blk_drewN ?_ _ | refine blk_drew ?_ | refine blk_alloc ?_ _)); exact BK302.out) hb); have n5_ := Aside0.mk (blk_below (g := gb320) (o := .cells #[.int .i64 t306, .int .i64 t307, .int .i64 t308, .int .i64 t309, .slice Ao27 t310.length co27, .int .i64 t313, .int .i64 t314, .slice Ao28 t315.length co28, .int .i64 t318] 25 (0, 0)) (by (with_reducible repeat (first | refine blk_drewN ?_ _ | refine blk_drew ?_ | refine blk_alloc ?_ _)); exact BK320.out) hb); have n6_ := Aside0.mk (below_step (by repeat (first | (with_reducible first | exact HB.out | apply below_alloc | apply pw_below_drewN | apply below_drew1 | refine below_set ?_ GE302.out | refine below_set ?_ GE320.out) | exact HB.out)) hb); clear HO294; clear HO299; clear HO312; clear HO317; clear BK302; clear BK320; clear HB; have HO294 := n0_; have HO299 := n1_; have HO312 := n2_; have HO317 := n3_; have BK302 := n4_; have BK320 := n5_; have HB := n6_; clear n0_ n1_ n2_ n3_ n4_ n5_ n6_; (try clear hb); (try clear hb2); (try clear hk); (try clear hi); obtain ⟨hcz33_0, hcz33_1, hcz33_2, hcz33_3, hcz33_4, hcz33_5, hcz33_6, hcz33_7, hcz33_8⟩ := cells9 BK320.out; obtain ⟨hfz33_0, hfz33_1, hfz33_2, hfz33_3, hfz33_4, hfz33_5, hfz33_6, hfz33_7, hfz33_8⟩ := frozen9 BK320.out; obtain ⟨hcz34_0, hcz34_1, hcz34_2, hcz34_3, hcz34_4, hcz34_5, hcz34_6, hcz34_7, hcz34_8⟩ := cells9 BK302.out; obtain ⟨hfz34_0, hfz34_1, hfz34_2, hfz34_3, hfz34_4, hfz34_5, hfz34_6, hfz34_7, hfz34_8⟩ := frozen9 BK302.out) | (go_at_call 11; (with_reducible refine (cards_Right.calls k t288 t289 t290 t291 (fun k_ => some k_ = (.slice Ao19 t292.length co19 : Value).ownBlock) _ _ t292 t295 t296 _ _ t297 t300 t323 _ ?side1 ?side2 ?side3 A15.out).mono ?_); (case side1 => exact Kd.R_V (Kd.R_tight rfl (Kd.R_types (Kd.R_types (Kd.R_apart' (Kd.R_apart' (HO294.out) (Kd.R_typed HO299.out) (by decide)) (Kd.R_typed HO317.out) (by decide)) BK302.out (by decide)) BK320.out (by decide)))); (case side2 => repeat (first | exact (Kd.R_reads' HO299.out).2.2 | (with_reducible refine Kd.C_alloc ?_ _) | (with_reducible refine Kd.C_drewN ?_ _) | (with_reducible refine Kd.C_drew ?_))); (case side3 => exact (Kd.R_reads' HO299.out).2.1); rintro e w35 ⟨rfl, hb⟩; have n0_ := Aside0.mk (Kd.R_below (by (with_reducible repeat (first | apply Kd.R_alloc | apply Kd.R_drewN | apply Kd.R_drew)); exact HO294.out) hb); have n1_ := Aside0.mk (Kd.R_below (by (with_reducible repeat (first | apply Kd.R_alloc | apply Kd.R_drewN | apply Kd.R_drew)); exact HO299.out) hb); have n2_ := Aside0.mk (Kd.R_below (by (with_reducible repeat (first | apply Kd.R_alloc | apply Kd.R_drewN | apply Kd.R_drew)); exact HO312.out) hb); have n3_ := Aside0.mk (Kd.R_below (by (with_reducible repeat (first | apply Kd.R_alloc | apply Kd.R_drewN | apply Kd.R_drew)); exact HO317.out) hb); have n4_ := Aside0.mk (blk_below (g := gb302) (o := .cells #[.int .i64 t288, .int .i64 t289, .int .i64 t290, .int .i64 t291, .slice Ao19 t292.length co19, .int .i64 t295, .int .i64 t296, .slice Ao20 t297.length co20, .int .i64 t300] 25 (0, 0)) (by (with_reducible repeat (first | refine blk_drewN ?_ _ | refine blk_drew ?_ | refine blk_alloc ?_ _)); exact BK302.out) hb); have n5_ := Aside0.mk (blk_below (g := gb320) (o := .cells #[.int .i64 t306, .int .i64 t307, .int .i64 t308, .int .i64 t309, .slice Ao27 t310.length co27, .int .i64 t313, .int .i64 t314, .slice Ao28 t315.length co28, .int .i64 t318] 25 (0, 0)) (by (with_reducible repeat (first | refine blk_drewN ?_ _ | refine blk_drew ?_ | refine blk_alloc ?_ _)); exact BK320.out) hb); have n6_ := Aside0.mk (below_step (by repeat (first | (with_reducible first | exact HB.out | apply below_alloc | apply pw_below_drewN | apply below_drew1 | refine below_set ?_ GE302.out | refine below_set ?_ GE320.out) | exact HB.out)) hb); clear HO294; clear HO299; clear HO312; clear HO317; clear BK302; clear BK320; clear HB; have HO294 := n0_; have HO299 := n1_; have HO312 := n2_; have HO317 := n3_; have BK302 := n4_; have BK320 := n5_; have HB := n6_; clear n0_ n1_ n2_ n3_ n4_ n5_ n6_; (try clear hb); (try clear hb2); (try clear hk); (try clear hi)))
                  go_ret
                  exact ⟨by first | rfl | (simp [errW_none, errW_some] <;> rfl) | (simp [*, errW_none, errW_some] <;> rfl), by repeat (first | (with_reducible first | exact HB.out | apply below_alloc | apply pw_below_drewN | apply below_drew1 | refine below_set ?_ GE302.out | refine below_set ?_ GE320.out) | exact HB.out)⟩
                · rw [if_neg c14] at H
                  exact absurd H (by simp)
              · replace c13 := Bool.eq_false_iff.mpr c13
                subst c13
                have H1 : (none) = some r := by rw [if_neg (show ¬ (false = true) by decide)] at H; exact H
                clear H
                have H := H1
                clear H1
                exact absurd H (by simp)
            · rw [if_neg c11] at H
              exact absurd H (by simp)
          · rw [if_neg c10] at H
            exact absurd H (by simp)
        · rw [if_neg c9] at H
          exact absurd H (by simp)
      · rw [if_neg c7] at H
        exact absurd H (by simp)
    · rw [if_neg c6] at H
      exact absurd H (by simp)
  · rw [if_neg c4] at H
    exact absurd H (by simp)

/-! ### wainwrightref01_Same: function 38 -/
def wainwrightref01_Same.l0 : Nat → List Int → List Int → Int → Option (Bool)
  | 0, _, _, _ => none
  | k + 1, x0, x1, x5 => if x5 < (x0.length : Int) then (if 0 ≤ x5 then (if x5 < (x1.length : Int) then (if (rd x0 x5) = (rd x1 x5) then (wainwrightref01_Same.l0 k x0 x1 (wrap64 (x5 + 1))) else (some false)) else (none)) else (none)) else (some true)
def wainwrightref01_Same.f (k : Nat) (l0 : List Int) (l1 : List Int) : Option (Bool) := if (l0.length : Int) = (l1.length : Int) then (wainwrightref01_Same.l0 k l0 l1 0) else (some false)
theorem wainwrightref01_Same.mono_l : ∀ k, (∀ y0 y1 y2, LeO (wainwrightref01_Same.l0 k y0 y1 y2) (wainwrightref01_Same.l0 (k + 1) y0 y1 y2))
  | 0 => fun _ _ _ r h => by simp [wainwrightref01_Same.l0] at h
  | k + 1 => by
    have ih0 := wainwrightref01_Same.mono_l k
    · intro y0 y1 y2
      unfold wainwrightref01_Same.l0
      repeat' first
      | (with_reducible exact ih0 _ _ _)
      | (with_reducible exact LeO.refl _)
      | (with_reducible exact LeO.none _)
      | (with_reducible refine LeO.ite ?_ ?_)
      | (with_reducible refine LeO.bind ?_ (fun _ => ?_))
      | exact ih0 _ _ _
      | exact LeO.none _
      | refine LeO.ite ?_ ?_
      | refine LeO.bind ?_ (fun _ => ?_)
theorem wainwrightref01_Same.mono : ∀ a0 a1 k, LeO (wainwrightref01_Same.f k a0 a1) (wainwrightref01_Same.f (k + 1) a0 a1) := by
  intro a0 a1 k
  have ih0 := wainwrightref01_Same.mono_l k
  unfold wainwrightref01_Same.f
  repeat' first
      | (with_reducible exact ih0 _ _ _)
      | (with_reducible exact LeO.refl _)
      | (with_reducible exact LeO.none _)
      | (with_reducible refine LeO.ite ?_ ?_)
      | (with_reducible refine LeO.bind ?_ (fun _ => ?_))
      | exact ih0 _ _ _
      | exact LeO.none _
      | refine LeO.ite ?_ ?_
      | refine LeO.bind ?_ (fun _ => ?_)
set_option maxHeartbeats 8000000 in
set_option maxRecDepth 100000 in
theorem wainwrightref01_Same.calls (k : Nat) (A0 : Option Addr) (c0 : Nat) (l0 : List Int) (A1 : Option Addr) (c1 : Nat) (l1 : List Int) (r : Bool) (w : World) (hr0 : Kd.C (Kd.int .i64) w A0 l0.length l0) (hc0 : l0.length ≤ c0) (hr1 : Kd.C (Kd.int .i64) w A1 l1.length l1) (hc1 : l1.length ≤ c1) (h : wainwrightref01_Same.f k l0 l1 = some r) :
    Calls Try.prog 38 #[.slice A0 l0.length c0, .slice A1 l1.length c1] w fun e w' => e = .returned (.bool r) ∧ Drawn0 w w' := by
  have HR0 := Aside0.mk hr0
  have HC0 := Aside0.mk hc0
  clear hr0 hc0
  have HR1 := Aside0.mk hr1
  have HC1 := Aside0.mk hc1
  clear hr1 hc1
  have H : (if (l0.length : Int) = (l1.length : Int) then (wainwrightref01_Same.l0 k l0 l1 0) else (some false)) = some r := h
  clear h
  by_cases c3 : (l0.length : Int) = (l1.length : Int)
  · rw [if_pos c3] at H
    have c3b0 : ((l0.length : Int) == (l1.length : Int)) = true := beq_iff_eq.mpr c3
    have c3b1 : ((l0.length : Int) != (l1.length : Int)) = false := bne_eq_false_iff_eq.mpr c3
    have c3b2 : (l0.length == l1.length) = true := by first | simpa using c3 | (simp at c3 ⊢; omega)
    clear c3
    have H' := Aside0.mk H
    clear H
    go_enter Try.func38, Try.ntmps38
    go_wp2
    repeat (go_quiet (fail); try go_wp2)
    go_loopg [5] k (fun kq v5 w' => ∃ (x5_1 : Int), v5 = .int .i64 x5_1 ∧ Aside0 (wainwrightref01_Same.l0 kq l0 l1 x5_1 = some r) ∧ Aside0 (kq ≤ k) ∧ Drawn0 w w')
    case atStart => exact ⟨(0), (by first | rfl | (simp; done) | (simp [*]; done) | exact gw_ne _ | exact gw_eq _), H', ⟨Nat.le_refl _⟩, by repeat (first | exact Drawn0.refl _ | apply Drawn0.step)⟩
    case round =>
      clear H'
      try clear c1
      try clear p2
      try clear c3
      try clear c3b0
      try clear c3b1
      try clear c3b2
      obtain ⟨x5_1, rfl, HA, HK1, ⟨m1, rfl⟩⟩ := hrel
      cases gk with
      | zero => exact absurd HA.out (by simp [wainwrightref01_Same.l0])
      | succ k1 =>
        have H := HA.out
        clear HA
        simp only [wainwrightref01_Same.l0] at H
        by_cases c4 : x5_1 < (l0.length : Int)
        · rw [if_pos c4] at H
          have c4b0 : decide (x5_1 < (l0.length : Int)) = true := decide_eq_true c4
          clear c4
          by_cases c5 : 0 ≤ x5_1
          · rw [if_pos c5] at H
            have c5b0 : decide (0 ≤ x5_1) = true := decide_eq_true c5
            clear c5
            by_cases c6 : x5_1 < (l1.length : Int)
            · rw [if_pos c6] at H
              have c6b0 : decide (x5_1 < (l1.length : Int)) = true := decide_eq_true c6
              clear c6
              by_cases c7 : (rd l0 x5_1) = (rd l1 x5_1)
              · rw [if_pos c7] at H
                have c7b0 : ((rd l0 x5_1) == (rd l1 x5_1)) = true := beq_iff_eq.mpr c7
                have c7b1 : ((rd l0 x5_1) != (rd l1 x5_1)) = false := bne_eq_false_iff_eq.mpr c7
                clear c7
                have H' := Aside0.mk H
                clear H
                have p324 : 0 ≤ (x5_1 : Int) := of_decide_eq_true (by first | (with_reducible assumption) | assumption)
                have q324 : x5_1 < (l0.length : Int) := of_decide_eq_true (by first | (with_reducible assumption) | assumption)
                obtain ⟨ad324, e324, hx324_0⟩ := Kd.at_int HR0.out x5_1 p324 q324
                cases e324
                replace p324 := eq_true p324
                replace q324 := eq_true q324
                have p325 : 0 ≤ (x5_1 : Int) := of_decide_eq_true (by first | (with_reducible assumption) | assumption)
                have q325 : x5_1 < (l1.length : Int) := of_decide_eq_true (by first | (with_reducible assumption) | assumption)
                obtain ⟨ad325, e325, hx325_0⟩ := Kd.at_int HR1.out x5_1 p325 q325
                cases e325
                replace p325 := eq_true p325
                replace q325 := eq_true q325
                go_wp2
                repeat (go_quiet (fail); try go_wp2)
                go_roundg k1
                case measure => have := HK1.out; omega
                case rel => exact ⟨(wrap64 (x5_1 + 1)), (by first | rfl | (simp; done) | (simp [*]; done) | exact gw_ne _ | exact gw_eq _), H', ⟨by have := HK1.out; omega⟩, by repeat (first | exact Drawn0.refl _ | apply Drawn0.step)⟩
              · rw [if_neg c7] at H
                have c7b0 : ((rd l0 x5_1) == (rd l1 x5_1)) = false := beq_eq_false_iff_ne.mpr c7
                have c7b1 : ((rd l0 x5_1) != (rd l1 x5_1)) = true := bne_iff_ne.mpr c7
                obtain rfl := Option.some.inj H
                have p324 : 0 ≤ (x5_1 : Int) := of_decide_eq_true (by first | (with_reducible assumption) | assumption)
                have q324 : x5_1 < (l0.length : Int) := of_decide_eq_true (by first | (with_reducible assumption) | assumption)
                obtain ⟨ad324, e324, hx324_0⟩ := Kd.at_int HR0.out x5_1 p324 q324
                cases e324
                replace p324 := eq_true p324
                replace q324 := eq_true q324
                have p325 : 0 ≤ (x5_1 : Int) := of_decide_eq_true (by first | (with_reducible assumption) | assumption)
                have q325 : x5_1 < (l1.length : Int) := of_decide_eq_true (by first | (with_reducible assumption) | assumption)
                obtain ⟨ad325, e325, hx325_0⟩ := Kd.at_int HR1.out x5_1 p325 q325
                cases e325
                replace p325 := eq_true p325
                replace q325 := eq_true q325
                go_wp2
                repeat (go_quiet (fail); try go_wp2)
                go_ret
                exact ⟨by first | rfl | (simp; done) | (simp [*]; done), by repeat (first | exact Drawn0.refl _ | apply Drawn0.step)⟩
            · rw [if_neg c6] at H
              exact absurd H (by simp)
          · rw [if_neg c5] at H
            exact absurd H (by simp)
        · rw [if_neg c4] at H
          have c4b0 : decide (x5_1 < (l0.length : Int)) = false := decide_eq_false c4
          clear c4
          obtain rfl := Option.some.inj H
          go_wp2
          repeat (go_quiet (fail); try go_wp2)
          go_ret
          exact ⟨by first | rfl | (simp; done) | (simp [*]; done), by repeat (first | exact Drawn0.refl _ | apply Drawn0.step)⟩
  · rw [if_neg c3] at H
    have c3b0 : ((l0.length : Int) == (l1.length : Int)) = false := beq_eq_false_iff_ne.mpr c3
    have c3b1 : ((l0.length : Int) != (l1.length : Int)) = true := bne_iff_ne.mpr c3
    have c3b2 : (l0.length == l1.length) = false := by first | simpa using c3 | (simp at c3 ⊢; omega)
    obtain rfl := Option.some.inj H
    go_enter Try.func38, Try.ntmps38
    go_wp2
    repeat (go_quiet (fail); try go_wp2)
    go_ret
    exact ⟨by first | rfl | (simp; done) | (simp [*]; done), by repeat (first | exact Drawn0.refl _ | apply Drawn0.step)⟩

/-! ### wainwrightref04_Same: function 39 -/
def wainwrightref04_Same.l0 : Nat → List (S48) → List (S48) → Int → Option (Bool)
  | 0, _, _, _ => none
  | k + 1, x0, x1, x5 => if x5 < (x0.length : Int) then (if 0 ≤ x5 then (if x5 < (x1.length : Int) then (if (!(((rd_T48 x0 x5).f0) == ((rd_T48 x1 x5).f0)) || (!(((rd_T48 x0 x5).f1) == ((rd_T48 x1 x5).f1)) || (!(((rd_T48 x0 x5).f2) == ((rd_T48 x1 x5).f2))))) = true then (some false) else (wainwrightref04_Same.l0 k x0 x1 (wrap64 (x5 + 1)))) else (none)) else (none)) else (some true)
def wainwrightref04_Same.f (k : Nat) (l0 : List (S48)) (l1 : List (S48)) : Option (Bool) := if (l0.length : Int) = (l1.length : Int) then (wainwrightref04_Same.l0 k l0 l1 0) else (some false)
theorem wainwrightref04_Same.mono_l : ∀ k, (∀ y0 y1 y2, LeO (wainwrightref04_Same.l0 k y0 y1 y2) (wainwrightref04_Same.l0 (k + 1) y0 y1 y2))
  | 0 => fun _ _ _ r h => by simp [wainwrightref04_Same.l0] at h
  | k + 1 => by
    have ih0 := wainwrightref04_Same.mono_l k
    · intro y0 y1 y2
      unfold wainwrightref04_Same.l0
      repeat' first
      | (with_reducible exact ih0 _ _ _)
      | (with_reducible exact LeO.refl _)
      | (with_reducible exact LeO.none _)
      | (with_reducible refine LeO.ite ?_ ?_)
      | (with_reducible refine LeO.bind ?_ (fun _ => ?_))
      | exact ih0 _ _ _
      | exact LeO.none _
      | refine LeO.ite ?_ ?_
      | refine LeO.bind ?_ (fun _ => ?_)
theorem wainwrightref04_Same.mono : ∀ a0 a1 k, LeO (wainwrightref04_Same.f k a0 a1) (wainwrightref04_Same.f (k + 1) a0 a1) := by
  intro a0 a1 k
  have ih0 := wainwrightref04_Same.mono_l k
  unfold wainwrightref04_Same.f
  repeat' first
      | (with_reducible exact ih0 _ _ _)
      | (with_reducible exact LeO.refl _)
      | (with_reducible exact LeO.none _)
      | (with_reducible refine LeO.ite ?_ ?_)
      | (with_reducible refine LeO.bind ?_ (fun _ => ?_))
      | exact ih0 _ _ _
      | exact LeO.none _
      | refine LeO.ite ?_ ?_
      | refine LeO.bind ?_ (fun _ => ?_)
set_option maxHeartbeats 8000000 in
set_option maxRecDepth 100000 in
theorem wainwrightref04_Same.calls (k : Nat) (A0 : Option Addr) (c0 : Nat) (l0 : List (S48)) (A1 : Option Addr) (c1 : Nat) (l1 : List (S48)) (r : Bool) (w : World) (hr0 : Kd.C k48 w A0 l0.length l0) (hc0 : l0.length ≤ c0) (hr1 : Kd.C k48 w A1 l1.length l1) (hc1 : l1.length ≤ c1) (h : wainwrightref04_Same.f k l0 l1 = some r) :
    Calls Try.prog 39 #[.slice A0 l0.length c0, .slice A1 l1.length c1] w fun e w' => e = .returned (.bool r) ∧ Drawn0 w w' := by
  have hu48 := Try.underlying48
  have HR0 := Aside0.mk hr0
  have HC0 := Aside0.mk hc0
  clear hr0 hc0
  have HR1 := Aside0.mk hr1
  have HC1 := Aside0.mk hc1
  clear hr1 hc1
  have H : (if (l0.length : Int) = (l1.length : Int) then (wainwrightref04_Same.l0 k l0 l1 0) else (some false)) = some r := h
  clear h
  by_cases c3 : (l0.length : Int) = (l1.length : Int)
  · rw [if_pos c3] at H
    have c3b0 : ((l0.length : Int) == (l1.length : Int)) = true := beq_iff_eq.mpr c3
    have c3b1 : ((l0.length : Int) != (l1.length : Int)) = false := bne_eq_false_iff_eq.mpr c3
    have c3b2 : (l0.length == l1.length) = true := by first | simpa using c3 | (simp at c3 ⊢; omega)
    clear c3
    have H' := Aside0.mk H
    clear H
    go_enter Try.func39, Try.ntmps39
    go_wp2
    repeat (go_quiet (fail); try go_wp2)
    go_loopg [5] k (fun kq v5 w' => ∃ (x5_1 : Int), v5 = .int .i64 x5_1 ∧ Aside0 (wainwrightref04_Same.l0 kq l0 l1 x5_1 = some r) ∧ Aside0 (kq ≤ k) ∧ Drawn0 w w')
    case atStart => exact ⟨(0), (by first | rfl | (simp; done) | (simp [*]; done) | exact gw_ne _ | exact gw_eq _), H', ⟨Nat.le_refl _⟩, by repeat (first | exact Drawn0.refl _ | apply Drawn0.step)⟩
    case round =>
      clear H'
      try clear c1
      try clear p2
      try clear c3
      try clear c3b0
      try clear c3b1
      try clear c3b2
      obtain ⟨x5_1, rfl, HA, HK1, ⟨m1, rfl⟩⟩ := hrel
      cases gk with
      | zero => exact absurd HA.out (by simp [wainwrightref04_Same.l0])
      | succ k1 =>
        have H := HA.out
        clear HA
        simp only [wainwrightref04_Same.l0] at H
        by_cases c4 : x5_1 < (l0.length : Int)
        · rw [if_pos c4] at H
          have c4b0 : decide (x5_1 < (l0.length : Int)) = true := decide_eq_true c4
          clear c4
          by_cases c5 : 0 ≤ x5_1
          · rw [if_pos c5] at H
            have c5b0 : decide (0 ≤ x5_1) = true := decide_eq_true c5
            clear c5
            by_cases c6 : x5_1 < (l1.length : Int)
            · rw [if_pos c6] at H
              have c6b0 : decide (x5_1 < (l1.length : Int)) = true := decide_eq_true c6
              clear c6
              by_cases c7 : (!(((rd_T48 l0 x5_1).f0) == ((rd_T48 l1 x5_1).f0)) || (!(((rd_T48 l0 x5_1).f1) == ((rd_T48 l1 x5_1).f1)) || (!(((rd_T48 l0 x5_1).f2) == ((rd_T48 l1 x5_1).f2))))) = true
              · rw [if_pos c7] at H
                have c7b0 : (!(((rd_T48 l0 x5_1).f0) == ((rd_T48 l1 x5_1).f0)) || (!(((rd_T48 l0 x5_1).f1) == ((rd_T48 l1 x5_1).f1)) || (!(((rd_T48 l0 x5_1).f2) == ((rd_T48 l1 x5_1).f2))))) = true := c7
                clear c7
                obtain rfl := Option.some.inj H
                have p326 : 0 ≤ (x5_1 : Int) := of_decide_eq_true (by first | (with_reducible assumption) | assumption)
                have q326 : x5_1 < (l0.length : Int) := of_decide_eq_true (by first | (with_reducible assumption) | assumption)
                obtain ⟨ad326, e326, hx326_0, hx326_1, hx326_2⟩ := at_T48 HR0.out x5_1 p326 q326
                cases e326
                replace p326 := eq_true p326
                replace q326 := eq_true q326
                have p327 : 0 ≤ (x5_1 : Int) := of_decide_eq_true (by first | (with_reducible assumption) | assumption)
                have q327 : x5_1 < (l1.length : Int) := of_decide_eq_true (by first | (with_reducible assumption) | assumption)
                obtain ⟨ad327, e327, hx327_0, hx327_1, hx327_2⟩ := at_T48 HR1.out x5_1 p327 q327
                cases e327
                replace p327 := eq_true p327
                replace q327 := eq_true q327
                go_wp2
                repeat (go_quiet (fail); try go_wp2)
                go_ret
                exact ⟨by first | rfl | (simp; done) | (simp [*]; done), by repeat (first | exact Drawn0.refl _ | apply Drawn0.step)⟩
              · rw [if_neg c7] at H
                have c7b0 : (!(((rd_T48 l0 x5_1).f0) == ((rd_T48 l1 x5_1).f0)) || (!(((rd_T48 l0 x5_1).f1) == ((rd_T48 l1 x5_1).f1)) || (!(((rd_T48 l0 x5_1).f2) == ((rd_T48 l1 x5_1).f2))))) = false := by simpa using c7
                clear c7
                have H' := Aside0.mk H
                clear H
                have p326 : 0 ≤ (x5_1 : Int) := of_decide_eq_true (by first | (with_reducible assumption) | assumption)
                have q326 : x5_1 < (l0.length : Int) := of_decide_eq_true (by first | (with_reducible assumption) | assumption)
                obtain ⟨ad326, e326, hx326_0, hx326_1, hx326_2⟩ := at_T48 HR0.out x5_1 p326 q326
                cases e326
                replace p326 := eq_true p326
                replace q326 := eq_true q326
                have p327 : 0 ≤ (x5_1 : Int) := of_decide_eq_true (by first | (with_reducible assumption) | assumption)
                have q327 : x5_1 < (l1.length : Int) := of_decide_eq_true (by first | (with_reducible assumption) | assumption)
                obtain ⟨ad327, e327, hx327_0, hx327_1, hx327_2⟩ := at_T48 HR1.out x5_1 p327 q327
                cases e327
                replace p327 := eq_true p327
                replace q327 := eq_true q327
                go_wp2
                repeat (go_quiet (fail); try go_wp2)
                go_roundg k1
                case measure => have := HK1.out; omega
                case rel => exact ⟨(wrap64 (x5_1 + 1)), (by first | rfl | (simp; done) | (simp [*]; done) | exact gw_ne _ | exact gw_eq _), H', ⟨by have := HK1.out; omega⟩, by repeat (first | exact Drawn0.refl _ | apply Drawn0.step)⟩
            · rw [if_neg c6] at H
              exact absurd H (by simp)
          · rw [if_neg c5] at H
            exact absurd H (by simp)
        · rw [if_neg c4] at H
          have c4b0 : decide (x5_1 < (l0.length : Int)) = false := decide_eq_false c4
          clear c4
          obtain rfl := Option.some.inj H
          go_wp2
          repeat (go_quiet (fail); try go_wp2)
          go_ret
          exact ⟨by first | rfl | (simp; done) | (simp [*]; done), by repeat (first | exact Drawn0.refl _ | apply Drawn0.step)⟩
  · rw [if_neg c3] at H
    have c3b0 : ((l0.length : Int) == (l1.length : Int)) = false := beq_eq_false_iff_ne.mpr c3
    have c3b1 : ((l0.length : Int) != (l1.length : Int)) = true := bne_iff_ne.mpr c3
    have c3b2 : (l0.length == l1.length) = false := by first | simpa using c3 | (simp at c3 ⊢; omega)
    obtain rfl := Option.some.inj H
    go_enter Try.func39, Try.ntmps39
    go_wp2
    repeat (go_quiet (fail); try go_wp2)
    go_ret
    exact ⟨by first | rfl | (simp; done) | (simp [*]; done), by repeat (first | exact Drawn0.refl _ | apply Drawn0.step)⟩

/-! ### wainwrightref09_Same: function 15 -/
def wainwrightref09_Same.f (k : Nat) (a0_0 : Int) (a0_1 : Int) (a0_2 : Int) (a0_3 : Int) (l0_4 : List Int) (a0_5 : Int) (a0_6 : Int) (l0_7 : List (S48)) (a0_8 : Int) (a1_0 : Int) (a1_1 : Int) (a1_2 : Int) (a1_3 : Int) (l1_4 : List Int) (a1_5 : Int) (a1_6 : Int) (l1_7 : List (S48)) (a1_8 : Int) : Option (Bool) := if a0_0 = a1_0 then (if a0_1 = a1_1 then (if a0_2 = a1_2 then (if a0_3 = a1_3 then ((wainwrightref01_Same.f k l0_4 l1_4).bind fun t330 => (if t330 = true then (if a0_5 = a1_5 then (if a0_6 = a1_6 then ((wainwrightref04_Same.f k l0_7 l1_7).bind fun t331 => (if t331 = true then (some (a0_8 == a1_8)) else (some false))) else (some false)) else (some false)) else (some false))) else (some false)) else (some false)) else (some false)) else (some false)
theorem wainwrightref09_Same.mono : ∀ a0 a1 a2 a3 a4 a5 a6 a7 a8 a9 a10 a11 a12 a13 a14 a15 a16 a17 k, LeO (wainwrightref09_Same.f k a0 a1 a2 a3 a4 a5 a6 a7 a8 a9 a10 a11 a12 a13 a14 a15 a16 a17) (wainwrightref09_Same.f (k + 1) a0 a1 a2 a3 a4 a5 a6 a7 a8 a9 a10 a11 a12 a13 a14 a15 a16 a17) := by
  intro a0 a1 a2 a3 a4 a5 a6 a7 a8 a9 a10 a11 a12 a13 a14 a15 a16 a17 k
  unfold wainwrightref09_Same.f
  repeat' first
      | (with_reducible exact wainwrightref01_Same.mono _ _ _)
      | (with_reducible exact wainwrightref04_Same.mono _ _ _)
      | (with_reducible exact LeO.refl _)
      | (with_reducible exact LeO.none _)
      | (with_reducible refine LeO.ite ?_ ?_)
      | (with_reducible refine LeO.bind ?_ (fun _ => ?_))
      | exact wainwrightref01_Same.mono _ _ _
      | exact wainwrightref04_Same.mono _ _ _
      | exact LeO.none _
      | refine LeO.ite ?_ ?_
      | refine LeO.bind ?_ (fun _ => ?_)
set_option maxHeartbeats 8000000 in
set_option maxRecDepth 100000 in
theorem wainwrightref09_Same.calls (k : Nat) (a0_0 : Int) (a0_1 : Int) (a0_2 : Int) (a0_3 : Int) (A0_4 : Option Addr) (c0_4 : Nat) (l0_4 : List Int) (a0_5 : Int) (a0_6 : Int) (A0_7 : Option Addr) (c0_7 : Nat) (l0_7 : List (S48)) (a0_8 : Int) (a1_0 : Int) (a1_1 : Int) (a1_2 : Int) (a1_3 : Int) (A1_4 : Option Addr) (c1_4 : Nat) (l1_4 : List Int) (a1_5 : Int) (a1_6 : Int) (A1_7 : Option Addr) (c1_7 : Nat) (l1_7 : List (S48)) (a1_8 : Int) (r : Bool) (w : World) (hr0_4 : Kd.C (Kd.int .i64) w A0_4 l0_4.length l0_4) (hc0_4 : l0_4.length ≤ c0_4) (hr0_7 : Kd.C k48 w A0_7 l0_7.length l0_7) (hc0_7 : l0_7.length ≤ c0_7) (hr1_4 : Kd.C (Kd.int .i64) w A1_4 l1_4.length l1_4) (hc1_4 : l1_4.length ≤ c1_4) (hr1_7 : Kd.C k48 w A1_7 l1_7.length l1_7) (hc1_7 : l1_7.length ≤ c1_7) (h : wainwrightref09_Same.f k a0_0 a0_1 a0_2 a0_3 l0_4 a0_5 a0_6 l0_7 a0_8 a1_0 a1_1 a1_2 a1_3 l1_4 a1_5 a1_6 l1_7 a1_8 = some r) :
    Calls Try.prog 15 #[.agg #[.int .i64 a0_0, .int .i64 a0_1, .int .i64 a0_2, .int .i64 a0_3, .slice A0_4 l0_4.length c0_4, .int .i64 a0_5, .int .i64 a0_6, .slice A0_7 l0_7.length c0_7, .int .i64 a0_8], .agg #[.int .i64 a1_0, .int .i64 a1_1, .int .i64 a1_2, .int .i64 a1_3, .slice A1_4 l1_4.length c1_4, .int .i64 a1_5, .int .i64 a1_6, .slice A1_7 l1_7.length c1_7, .int .i64 a1_8]] w fun e w' => e = .returned (.bool r) ∧ Below w.heap.size w w' := by
  have hu25 := Try.underlying25
  have HR0_4 := Aside0.mk hr0_4
  have HC0_4 := Aside0.mk hc0_4
  clear hr0_4 hc0_4
  have HR0_7 := Aside0.mk hr0_7
  have HC0_7 := Aside0.mk hc0_7
  clear hr0_7 hc0_7
  have HR1_4 := Aside0.mk hr1_4
  have HC1_4 := Aside0.mk hc1_4
  clear hr1_4 hc1_4
  have HR1_7 := Aside0.mk hr1_7
  have HC1_7 := Aside0.mk hc1_7
  clear hr1_7 hc1_7
  have HB := Aside0.mk (Below.refl w.heap.size w)
  have H : (if a0_0 = a1_0 then (if a0_1 = a1_1 then (if a0_2 = a1_2 then (if a0_3 = a1_3 then ((wainwrightref01_Same.f k l0_4 l1_4).bind fun t330 => (if t330 = true then (if a0_5 = a1_5 then (if a0_6 = a1_6 then ((wainwrightref04_Same.f k l0_7 l1_7).bind fun t331 => (if t331 = true then (some (a0_8 == a1_8)) else (some false))) else (some false)) else (some false)) else (some false))) else (some false)) else (some false)) else (some false)) else (some false)) = some r := h
  clear h
  by_cases c3 : a0_0 = a1_0
  all_goals (first
    | (skip
       rw [if_pos c3] at H
       have c3b0 : (a0_0 == a1_0) = true := beq_iff_eq.mpr c3
       have c3b1 : (a0_0 != a1_0) = false := bne_eq_false_iff_eq.mpr c3
       clear c3
       by_cases c4 : a0_1 = a1_1
       all_goals (first
         | (skip
            rw [if_pos c4] at H
            have c4b0 : (a0_1 == a1_1) = true := beq_iff_eq.mpr c4
            have c4b1 : (a0_1 != a1_1) = false := bne_eq_false_iff_eq.mpr c4
            clear c4
            by_cases c5 : a0_2 = a1_2
            all_goals (first
              | (skip
                 rw [if_pos c5] at H
                 have c5b0 : (a0_2 == a1_2) = true := beq_iff_eq.mpr c5
                 have c5b1 : (a0_2 != a1_2) = false := bne_eq_false_iff_eq.mpr c5
                 clear c5
                 by_cases c6 : a0_3 = a1_3
                 all_goals (first
                   | (skip
                      rw [if_pos c6] at H
                      have c6b0 : (a0_3 == a1_3) = true := beq_iff_eq.mpr c6
                      have c6b1 : (a0_3 != a1_3) = false := bne_eq_false_iff_eq.mpr c6
                      clear c6
                      replace H := Option.bind_eq_some_iff.mp H
                      obtain ⟨tq0, Aq0z, H⟩ := H
                      have Aq0 := Aside0.mk Aq0z
                      clear Aq0z
                      by_cases c8 : tq0 = true
                      all_goals (first
                        | (skip
                           subst c8
                           rw [if_pos rfl] at H
                           by_cases c9 : a0_5 = a1_5
                           all_goals (first
                             | (skip
                                rw [if_pos c9] at H
                                have c9b0 : (a0_5 == a1_5) = true := beq_iff_eq.mpr c9
                                have c9b1 : (a0_5 != a1_5) = false := bne_eq_false_iff_eq.mpr c9
                                clear c9
                                by_cases c10 : a0_6 = a1_6
                                all_goals (first
                                  | (skip
                                     rw [if_pos c10] at H
                                     have c10b0 : (a0_6 == a1_6) = true := beq_iff_eq.mpr c10
                                     have c10b1 : (a0_6 != a1_6) = false := bne_eq_false_iff_eq.mpr c10
                                     clear c10
                                     replace H := Option.bind_eq_some_iff.mp H
                                     obtain ⟨tq1, Aq1z, H⟩ := H
                                     have Aq1 := Aside0.mk Aq1z
                                     clear Aq1z
                                     by_cases c12 : tq1 = true
                                     all_goals (first
                                       | (skip
                                          subst c12
                                          rw [if_pos rfl] at H
                                          obtain rfl := Option.some.inj H
                                          have C0_ : True := trivial
                                          have S0_ : True := trivial)
                                       | (skip
                                          replace c12 := Bool.eq_false_iff.mpr c12
                                          subst c12
                                          rw [if_neg (show ¬ (false = true) by decide)] at H
                                          obtain rfl := Option.some.inj H
                                          have C0_ : True := trivial
                                          have S0_ : True := trivial)))
                                  | (skip
                                     rw [if_neg c10] at H
                                     have c10b0 : (a0_6 == a1_6) = false := beq_eq_false_iff_ne.mpr c10
                                     have c10b1 : (a0_6 != a1_6) = true := bne_iff_ne.mpr c10
                                     obtain rfl := Option.some.inj H
                                     have C0_ : True := trivial
                                     have S0_ : True := trivial)))
                             | (skip
                                rw [if_neg c9] at H
                                have c9b0 : (a0_5 == a1_5) = false := beq_eq_false_iff_ne.mpr c9
                                have c9b1 : (a0_5 != a1_5) = true := bne_iff_ne.mpr c9
                                obtain rfl := Option.some.inj H
                                have C0_ : True := trivial
                                have S0_ : True := trivial)))
                        | (skip
                           replace c8 := Bool.eq_false_iff.mpr c8
                           subst c8
                           rw [if_neg (show ¬ (false = true) by decide)] at H
                           obtain rfl := Option.some.inj H
                           have C0_ : True := trivial
                           have S0_ : True := trivial)))
                   | (skip
                      rw [if_neg c6] at H
                      have c6b0 : (a0_3 == a1_3) = false := beq_eq_false_iff_ne.mpr c6
                      have c6b1 : (a0_3 != a1_3) = true := bne_iff_ne.mpr c6
                      obtain rfl := Option.some.inj H
                      have C0_ : True := trivial
                      have S0_ : True := trivial)))
              | (skip
                 rw [if_neg c5] at H
                 have c5b0 : (a0_2 == a1_2) = false := beq_eq_false_iff_ne.mpr c5
                 have c5b1 : (a0_2 != a1_2) = true := bne_iff_ne.mpr c5
                 obtain rfl := Option.some.inj H
                 have C0_ : True := trivial
                 have S0_ : True := trivial)))
         | (skip
            rw [if_neg c4] at H
            have c4b0 : (a0_1 == a1_1) = false := beq_eq_false_iff_ne.mpr c4
            have c4b1 : (a0_1 != a1_1) = true := bne_iff_ne.mpr c4
            obtain rfl := Option.some.inj H
            have C0_ : True := trivial
            have S0_ : True := trivial)))
    | (skip
       rw [if_neg c3] at H
       have c3b0 : (a0_0 == a1_0) = false := beq_eq_false_iff_ne.mpr c3
       have c3b1 : (a0_0 != a1_0) = true := bne_iff_ne.mpr c3
       obtain rfl := Option.some.inj H
       have C0_ : True := trivial
       have S0_ : True := trivial))
  all_goals (
    first
    | (have _ := C0_
       go_enter Try.func15, Try.ntmps15
       go_wp2_with (first | ((with_reducible refine gate_dst (N := 2) rfl ?_); refine box_event ?hg (N := 2) ?hd (cs := #[.int .i64 a0_0, .int .i64 a0_1, .int .i64 a0_2, .int .i64 a0_3, .slice A0_4 l0_4.length c0_4, .int .i64 a0_5, .int .i64 a0_6, .slice A0_7 l0_7.length c0_7, .int .i64 a0_8]) (t := 25) ?hr ?_; (case hd => rfl); (case hg => rfl); (case hr => first | (go_simp; done) | (go_simp; rfl)); intro gb328 hg wq2 hbox hb; have n0_ := Aside0.mk (below_step (by repeat (first | (with_reducible first | exact HB.out | apply below_alloc | apply pw_below_drewN | apply below_drew1) | exact HB.out)) hb); have n1_ := Aside0.mk (hbox); have n2_ := Aside0.mk ((by rw [hg]; exact (below_size (by repeat (first | (with_reducible first | exact HB.out | apply below_alloc | apply pw_below_drewN | apply below_drew1) | exact HB.out))) : w.heap.size ≤ gb328)); have n3_ := Aside0.mk ((by rw [hg]; exact (below_size (by repeat (first | (with_reducible first | exact HB.out | apply below_alloc | apply pw_below_drewN | apply below_drew1) | exact HB.out))) : w.heap.size ≤ gb328)); clear HB; have HB := n0_; have BK328 := n1_; have GW328 := n2_; have GE328 := n3_; clear n0_ n1_ n2_ n3_; clear hb hbox hg) | ((with_reducible refine gate_dst (N := 3) rfl ?_); refine box_event ?hg (N := 3) ?hd (cs := #[.int .i64 a1_0, .int .i64 a1_1, .int .i64 a1_2, .int .i64 a1_3, .slice A1_4 l1_4.length c1_4, .int .i64 a1_5, .int .i64 a1_6, .slice A1_7 l1_7.length c1_7, .int .i64 a1_8]) (t := 25) ?hr ?_; (case hd => rfl); (case hg => rfl); (case hr => first | (go_simp; done) | (go_simp; rfl)); intro gb329 hg wq3 hbox hb; have n0_ := Aside0.mk (blk_below (g := gb328) (o := .cells #[.int .i64 a0_0, .int .i64 a0_1, .int .i64 a0_2, .int .i64 a0_3, .slice A0_4 l0_4.length c0_4, .int .i64 a0_5, .int .i64 a0_6, .slice A0_7 l0_7.length c0_7, .int .i64 a0_8] 25 (0, 0)) (by (with_reducible repeat (first | refine blk_drewN ?_ _ | refine blk_drew ?_ | refine blk_alloc ?_ _)); exact BK328.out) hb); have n1_ := Aside0.mk (below_step (by repeat (first | (with_reducible first | exact HB.out | apply below_alloc | apply pw_below_drewN | apply below_drew1 | refine below_set ?_ GE328.out) | exact HB.out)) hb); have n2_ := Aside0.mk (hbox); have n3_ := Aside0.mk ((by rw [hg]; exact (below_size (by repeat (first | (with_reducible first | exact HB.out | apply below_alloc | apply pw_below_drewN | apply below_drew1 | refine below_set ?_ GE328.out) | exact HB.out))) : w.heap.size ≤ gb329)); have n4_ := Aside0.mk ((by rw [hg]; exact (below_size (by repeat (first | (with_reducible first | exact HB.out | apply below_alloc | apply pw_below_drewN | apply below_drew1 | refine below_set ?_ GE328.out) | exact HB.out))) : w.heap.size ≤ gb329)); have n5_ := Aside0.mk ((by rw [hg]; exact Nat.ne_of_lt (blk_lt (g := gb328) (o := .cells #[.int .i64 a0_0, .int .i64 a0_1, .int .i64 a0_2, .int .i64 a0_3, .slice A0_4 l0_4.length c0_4, .int .i64 a0_5, .int .i64 a0_6, .slice A0_7 l0_7.length c0_7, .int .i64 a0_8] 25 (0, 0)) (by (with_reducible repeat (first | refine blk_drewN ?_ _ | refine blk_drew ?_ | refine blk_alloc ?_ _)); exact BK328.out)) : gb328 ≠ gb329)); have n6_ := Aside0.mk ((by rw [hg]; exact Nat.ne_of_gt (blk_lt (g := gb328) (o := .cells #[.int .i64 a0_0, .int .i64 a0_1, .int .i64 a0_2, .int .i64 a0_3, .slice A0_4 l0_4.length c0_4, .int .i64 a0_5, .int .i64 a0_6, .slice A0_7 l0_7.length c0_7, .int .i64 a0_8] 25 (0, 0)) (by (with_reducible repeat (first | refine blk_drewN ?_ _ | refine blk_drew ?_ | refine blk_alloc ?_ _)); exact BK328.out)) : gb329 ≠ gb328)); clear BK328; clear HB; have BK328 := n0_; have HB := n1_; have BK329 := n2_; have GW329 := n3_; have GE329 := n4_; have NB328_329 := n5_; have NB329_328 := n6_; clear n0_ n1_ n2_ n3_ n4_ n5_ n6_; clear hb hbox hg; have hnbq3 := NB328_329.out; have hncq3 := NB329_328.out; obtain ⟨hczq3_0, hczq3_1, hczq3_2, hczq3_3, hczq3_4, hczq3_5, hczq3_6, hczq3_7, hczq3_8⟩ := cells9 BK328.out; obtain ⟨hfzq3_0, hfzq3_1, hfzq3_2, hfzq3_3, hfzq3_4, hfzq3_5, hfzq3_6, hfzq3_7, hfzq3_8⟩ := frozen9 BK328.out; have hczq3x22_0 : wq3.cell? ⟨gb329, 0, none⟩ = some (.int .i64 a1_0) := (blk_cell BK329.out 0).trans rfl; have hczq3x23_1 : wq3.cell? ⟨gb329, 1, none⟩ = some (.int .i64 a1_1) := (blk_cell BK329.out 1).trans rfl; have hczq3x24_2 : wq3.cell? ⟨gb329, 2, none⟩ = some (.int .i64 a1_2) := (blk_cell BK329.out 2).trans rfl; have hczq3x25_3 : wq3.cell? ⟨gb329, 3, none⟩ = some (.int .i64 a1_3) := (blk_cell BK329.out 3).trans rfl; have hczq3x26_4 : wq3.cell? ⟨gb329, 4, none⟩ = some (.slice A1_4 l1_4.length c1_4) := (blk_cell BK329.out 4).trans rfl; have hczq3x27_5 : wq3.cell? ⟨gb329, 5, none⟩ = some (.int .i64 a1_5) := (blk_cell BK329.out 5).trans rfl; have hczq3x28_6 : wq3.cell? ⟨gb329, 6, none⟩ = some (.int .i64 a1_6) := (blk_cell BK329.out 6).trans rfl; have hczq3x29_7 : wq3.cell? ⟨gb329, 7, none⟩ = some (.slice A1_7 l1_7.length c1_7) := (blk_cell BK329.out 7).trans rfl; have hczq3x30_8 : wq3.cell? ⟨gb329, 8, none⟩ = some (.int .i64 a1_8) := (blk_cell BK329.out 8).trans rfl; have hfzq3x31_0 := blk_frozen BK329.out 0; have hfzq3x32_1 := blk_frozen BK329.out 1; have hfzq3x33_2 := blk_frozen BK329.out 2; have hfzq3x34_3 := blk_frozen BK329.out 3; have hfzq3x35_4 := blk_frozen BK329.out 4; have hfzq3x36_5 := blk_frozen BK329.out 5; have hfzq3x37_6 := blk_frozen BK329.out 6; have hfzq3x38_7 := blk_frozen BK329.out 7; have hfzq3x39_8 := blk_frozen BK329.out 8) | (go_at_call 38; (with_reducible refine (wainwrightref01_Same.calls k _ _ l0_4 _ _ l1_4 _ _ ?side1 ?side2 ?side3 ?side4 Aq0.out).mono ?_); (case side1 => repeat (first | exact (Kd.C_below HR0_4.out HB.out) | (with_reducible refine Kd.C_alloc ?_ _) | (with_reducible refine Kd.C_drewN ?_ _) | (with_reducible refine Kd.C_drew ?_))); (case side2 => exact HC0_4.out); (case side3 => repeat (first | exact (Kd.C_below HR1_4.out HB.out) | (with_reducible refine Kd.C_alloc ?_ _) | (with_reducible refine Kd.C_drewN ?_ _) | (with_reducible refine Kd.C_drew ?_))); (case side4 => exact HC1_4.out); rintro e w' ⟨rfl, ⟨nd, rfl⟩⟩) | (go_at_call 39; (with_reducible refine (wainwrightref04_Same.calls k _ _ l0_7 _ _ l1_7 _ _ ?side1 ?side2 ?side3 ?side4 Aq1.out).mono ?_); (case side1 => repeat (first | exact (Kd.C_below HR0_7.out (by repeat (first | (with_reducible first | exact HB.out | apply below_alloc | apply pw_below_drewN | apply below_drew1 | refine below_set ?_ GE328.out | refine below_set ?_ GE329.out) | exact HB.out))) | (with_reducible refine Kd.C_alloc ?_ _) | (with_reducible refine Kd.C_drewN ?_ _) | (with_reducible refine Kd.C_drew ?_))); (case side2 => exact HC0_7.out); (case side3 => repeat (first | exact (Kd.C_below HR1_7.out (by repeat (first | (with_reducible first | exact HB.out | apply below_alloc | apply pw_below_drewN | apply below_drew1 | refine below_set ?_ GE328.out | refine below_set ?_ GE329.out) | exact HB.out))) | (with_reducible refine Kd.C_alloc ?_ _) | (with_reducible refine Kd.C_drewN ?_ _) | (with_reducible refine Kd.C_drew ?_))); (case side4 => exact HC1_7.out); rintro e w' ⟨rfl, ⟨nd, rfl⟩⟩))
       go_ret
       exact ⟨by first | rfl | (simp [errW_none, errW_some] <;> rfl) | (simp [*, errW_none, errW_some] <;> rfl), by repeat (first | (with_reducible first | exact HB.out | apply below_alloc | apply pw_below_drewN | apply below_drew1 | refine below_set ?_ GE328.out | refine below_set ?_ GE329.out) | exact HB.out)⟩))

/-! ### wainwrightref09_small: function 33 -/
def wainwrightref09_small.f (a0 : Int) : Option (Bool) := if a0 ≥ 0 then (some (decide (a0 ≤ 65535))) else (some false)
set_option maxHeartbeats 8000000 in
set_option maxRecDepth 100000 in
theorem wainwrightref09_small.calls (a0 : Int) (r : Bool) (w : World) (h : wainwrightref09_small.f a0 = some r) :
    Calls Try.prog 33 #[.int .i64 a0] w fun e w' => e = .returned (.bool r) ∧ Drawn0 w w' := by
  have H : (if a0 ≥ 0 then (some (decide (a0 ≤ 65535))) else (some false)) = some r := h
  clear h
  by_cases c2 : a0 ≥ 0
  · rw [if_pos c2] at H
    have c2b0 : decide (0 ≤ a0) = true := decide_eq_true c2
    clear c2
    obtain rfl := Option.some.inj H
    go_enter Try.func33, Try.ntmps33
    go_wp2
    go_ret
    exact ⟨by first | rfl | (simp; done) | (simp [*]; done), by repeat (first | exact Drawn0.refl _ | apply Drawn0.step)⟩
  · rw [if_neg c2] at H
    have c2b0 : decide (0 ≤ a0) = false := decide_eq_false c2
    clear c2
    obtain rfl := Option.some.inj H
    go_enter Try.func33, Try.ntmps33
    go_wp2
    go_ret
    exact ⟨by first | rfl | (simp; done) | (simp [*]; done), by repeat (first | exact Drawn0.refl _ | apply Drawn0.step)⟩

end Go.Proofs.Ytegdoodjajpnhaa.GCwr
