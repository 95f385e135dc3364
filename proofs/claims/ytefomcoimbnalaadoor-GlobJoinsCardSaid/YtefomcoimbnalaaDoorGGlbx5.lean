/- printed for this claim by gprint.py, a program of this session, that drives the kit's printer. -/
import Derived.Test.YtefomcoimbnalaaDoorGGlbx0
import Derived.Test.YtefomcoimbnalaaDoorGGlbx1
import Derived.Test.YtefomcoimbnalaaDoorGGlbx3
import Derived.Test.YtefomcoimbnalaaDoorGGlbx4
namespace Go.Proofs.YtefomcoimbnalaaDoor.GGlb
open Go.RowKit Go.Proofs.YtefomcoimbnalaaDoorW.PrintWords Go.Proofs.YtefomcoimbnalaaDoorW.PrintLast Go.Proofs.YtefomcoimbnalaaDoorW.PrintMore
attribute [local go_sem] max2_int min2_int max_two min_two max_three min_three max_four min_four   -- for this text's walks alone
set_option linter.unusedVariables false
set_option linter.unusedSimpArgs false

/-! ### wainwrightlaw28_GlobJoins: function 4 -/
mutual
def wainwrightlaw28_GlobJoins.j0 : Nat → ByteArray → ByteArray → ByteArray → Bool → Option (Bool)
  | 0, _, _, _, _ => none
  | k + 1, x0, x1, x2, x24 => if x24 = true then ((glob_Match.f k (⟨#[42]⟩ : ByteArray) x2).bind fun t170 => (some t170)) else (wainwrightlaw28_GlobJoins.l0 k x0 x1 x2 false 0)
def wainwrightlaw28_GlobJoins.l0 : Nat → ByteArray → ByteArray → ByteArray → Bool → Int → Option (Bool)
  | 0, _, _, _, _, _ => none
  | k + 1, x0, x1, x2, x7, x8 => if x8 ≤ (x2.size : Int) then (if x7 = true then (wainwrightlaw28_GlobJoins.l0 k x0 x1 x2 true (wrap64 (x8 + 1))) else (if 0 ≤ x8 then ((glob_Match.f k x0 (x2.extract 0 (x8 : Int).toNat)).bind fun t171 => (if t171 = true then ((glob_Match.f k x1 (x2.extract (x8 : Int).toNat x2.size)).bind fun t172 => (wainwrightlaw28_GlobJoins.l0 k x0 x1 x2 t172 (wrap64 (x8 + 1)))) else (wainwrightlaw28_GlobJoins.l0 k x0 x1 x2 false (wrap64 (x8 + 1))))) else (none))) else (if x0.size + x1.size ≤ 9223372036854775807 then ((glob_Match.f k (x0 ++ x1) x2).bind fun t173 => (if (t173 == x7) = true then ((glob_Match.f k (⟨#[42]⟩ : ByteArray) x2).bind fun t174 => (if t174 = true then ((glob_Match.f k (⟨#[42, 42]⟩ : ByteArray) x2).bind fun t175 => (some t175)) else (some false))) else (some false))) else (none))
end
def wainwrightlaw28_GlobJoins.f (k : Nat) (a0 : ByteArray) (a1 : ByteArray) (a2 : ByteArray) : Option (Bool) := (wainwrightlaw28_lives.f k).bind fun t164 => (if t164 = true then ((wainwrightlaw28_early.f a0).bind fun t165 => ((wainwrightlaw28_early.f a1).bind fun t166 => ((wainwrightlaw28_early.f a2).bind fun t167 => ((glob_Right.f k t165).bind fun t168 => (if t168 = true then ((glob_Right.f k t166).bind fun t169 => (wainwrightlaw28_GlobJoins.j0 k t165 t166 t167 (!t169))) else (wainwrightlaw28_GlobJoins.j0 k t165 t166 t167 true)))))) else (some false))
theorem wainwrightlaw28_GlobJoins.mono_l : ∀ k, (∀ y0 y1 y2 y3, LeO (wainwrightlaw28_GlobJoins.j0 k y0 y1 y2 y3) (wainwrightlaw28_GlobJoins.j0 (k + 1) y0 y1 y2 y3)) ∧ (∀ y0 y1 y2 y3 y4, LeO (wainwrightlaw28_GlobJoins.l0 k y0 y1 y2 y3 y4) (wainwrightlaw28_GlobJoins.l0 (k + 1) y0 y1 y2 y3 y4))
  | 0 => ⟨fun _ _ _ _ r h => by simp [wainwrightlaw28_GlobJoins.j0] at h, fun _ _ _ _ _ r h => by simp [wainwrightlaw28_GlobJoins.l0] at h⟩
  | k + 1 => by
    obtain ⟨ih0, ih1⟩ := wainwrightlaw28_GlobJoins.mono_l k
    refine ⟨?_, ?_⟩
    · intro y0 y1 y2 y3
      unfold wainwrightlaw28_GlobJoins.j0
      repeat' first
      | (with_reducible exact ih0 _ _ _ _)
      | (with_reducible exact ih1 _ _ _ _ _)
      | (with_reducible exact glob_Match.mono _ _ _)
      | (with_reducible exact glob_Right.mono _ _)
      | (with_reducible exact wainwrightlaw28_lives.mono _)
      | (with_reducible exact LeO.refl _)
      | (with_reducible exact LeO.none _)
      | (with_reducible refine LeO.ite ?_ ?_)
      | (with_reducible refine LeO.bind ?_ (fun _ => ?_))
      | exact ih0 _ _ _ _
      | exact ih1 _ _ _ _ _
      | exact glob_Match.mono _ _ _
      | exact glob_Right.mono _ _
      | exact wainwrightlaw28_lives.mono _
      | exact LeO.none _
      | refine LeO.ite ?_ ?_
      | refine LeO.bind ?_ (fun _ => ?_)
    · intro y0 y1 y2 y3 y4
      unfold wainwrightlaw28_GlobJoins.l0
      repeat' first
      | (with_reducible exact ih0 _ _ _ _)
      | (with_reducible exact ih1 _ _ _ _ _)
      | (with_reducible exact glob_Match.mono _ _ _)
      | (with_reducible exact glob_Right.mono _ _)
      | (with_reducible exact wainwrightlaw28_lives.mono _)
      | (with_reducible exact LeO.refl _)
      | (with_reducible exact LeO.none _)
      | (with_reducible refine LeO.ite ?_ ?_)
      | (with_reducible refine LeO.bind ?_ (fun _ => ?_))
      | exact ih0 _ _ _ _
      | exact ih1 _ _ _ _ _
      | exact glob_Match.mono _ _ _
      | exact glob_Right.mono _ _
      | exact wainwrightlaw28_lives.mono _
      | exact LeO.none _
      | refine LeO.ite ?_ ?_
      | refine LeO.bind ?_ (fun _ => ?_)
theorem wainwrightlaw28_GlobJoins.mono : ∀ a0 a1 a2 k, LeO (wainwrightlaw28_GlobJoins.f k a0 a1 a2) (wainwrightlaw28_GlobJoins.f (k + 1) a0 a1 a2) := by
  intro a0 a1 a2 k
  obtain ⟨ih0, ih1⟩ := wainwrightlaw28_GlobJoins.mono_l k
  unfold wainwrightlaw28_GlobJoins.f
  repeat' first
      | (with_reducible exact ih0 _ _ _ _)
      | (with_reducible exact ih1 _ _ _ _ _)
      | (with_reducible exact glob_Match.mono _ _ _)
      | (with_reducible exact glob_Right.mono _ _)
      | (with_reducible exact wainwrightlaw28_lives.mono _)
      | (with_reducible exact LeO.refl _)
      | (with_reducible exact LeO.none _)
      | (with_reducible refine LeO.ite ?_ ?_)
      | (with_reducible refine LeO.bind ?_ (fun _ => ?_))
      | exact ih0 _ _ _ _
      | exact ih1 _ _ _ _ _
      | exact glob_Match.mono _ _ _
      | exact glob_Right.mono _ _
      | exact wainwrightlaw28_lives.mono _
      | exact LeO.none _
      | refine LeO.ite ?_ ?_
      | refine LeO.bind ?_ (fun _ => ?_)
set_option maxHeartbeats 8000000 in
set_option maxRecDepth 100000 in
theorem wainwrightlaw28_GlobJoins.calls (k : Nat) (a0 : ByteArray) (a1 : ByteArray) (a2 : ByteArray) (r : Bool) (w : World) (h : wainwrightlaw28_GlobJoins.f k a0 a1 a2 = some r) :
    Calls Tryd.prog 4 #[.string a0, .string a1, .string a2] w fun e w' => e = .returned (.bool r) ∧ Below w.heap.size w w' := by
  have HB := Aside0.mk (Below.refl w.heap.size w)
  have H : ((wainwrightlaw28_lives.f k).bind fun t164 => (if t164 = true then ((wainwrightlaw28_early.f a0).bind fun t165 => ((wainwrightlaw28_early.f a1).bind fun t166 => ((wainwrightlaw28_early.f a2).bind fun t167 => ((glob_Right.f k t165).bind fun t168 => (if t168 = true then ((glob_Right.f k t166).bind fun t169 => (wainwrightlaw28_GlobJoins.j0 k t165 t166 t167 (!t169))) else (wainwrightlaw28_GlobJoins.j0 k t165 t166 t167 true)))))) else (some false))) = some r := h
  clear h
  replace H := Option.bind_eq_some_iff.mp H
  obtain ⟨t164, A40, H⟩ := H
  replace H : (if t164 = true then ((wainwrightlaw28_early.f a0).bind fun t165 => ((wainwrightlaw28_early.f a1).bind fun t166 => ((wainwrightlaw28_early.f a2).bind fun t167 => ((glob_Right.f k t165).bind fun t168 => (if t168 = true then ((glob_Right.f k t166).bind fun t169 => (wainwrightlaw28_GlobJoins.j0 k t165 t166 t167 (!t169))) else (wainwrightlaw28_GlobJoins.j0 k t165 t166 t167 true)))))) else (some false)) = some r := H
  have A4 := Aside0.mk A40
  clear A40
  by_cases c5 : t164 = true
  · subst c5
    have H1 : ((wainwrightlaw28_early.f a0).bind fun t165 => ((wainwrightlaw28_early.f a1).bind fun t166 => ((wainwrightlaw28_early.f a2).bind fun t167 => ((glob_Right.f k t165).bind fun t168 => (if t168 = true then ((glob_Right.f k t166).bind fun t169 => (wainwrightlaw28_GlobJoins.j0 k t165 t166 t167 (!t169))) else (wainwrightlaw28_GlobJoins.j0 k t165 t166 t167 true)))))) = some r := by rw [if_pos rfl] at H; exact H
    clear H
    have H := H1
    clear H1
    replace H := Option.bind_eq_some_iff.mp H
    obtain ⟨t165, A60, H⟩ := H
    replace H : ((wainwrightlaw28_early.f a1).bind fun t166 => ((wainwrightlaw28_early.f a2).bind fun t167 => ((glob_Right.f k t165).bind fun t168 => (if t168 = true then ((glob_Right.f k t166).bind fun t169 => (wainwrightlaw28_GlobJoins.j0 k t165 t166 t167 (!t169))) else (wainwrightlaw28_GlobJoins.j0 k t165 t166 t167 true))))) = some r := H
    have A6 := Aside0.mk A60
    clear A60
    replace H := Option.bind_eq_some_iff.mp H
    obtain ⟨t166, A70, H⟩ := H
    replace H : ((wainwrightlaw28_early.f a2).bind fun t167 => ((glob_Right.f k t165).bind fun t168 => (if t168 = true then ((glob_Right.f k t166).bind fun t169 => (wainwrightlaw28_GlobJoins.j0 k t165 t166 t167 (!t169))) else (wainwrightlaw28_GlobJoins.j0 k t165 t166 t167 true)))) = some r := H
    have A7 := Aside0.mk A70
    clear A70
    replace H := Option.bind_eq_some_iff.mp H
    obtain ⟨t167, A80, H⟩ := H
    replace H : ((glob_Right.f k t165).bind fun t168 => (if t168 = true then ((glob_Right.f k t166).bind fun t169 => (wainwrightlaw28_GlobJoins.j0 k t165 t166 t167 (!t169))) else (wainwrightlaw28_GlobJoins.j0 k t165 t166 t167 true))) = some r := H
    have A8 := Aside0.mk A80
    clear A80
    have HC9 := Aside0.mk H
    clear H
    go_enter Tryd.func4, Tryd.ntmps4
    go_upto_region 4 with (first | ((with_reducible refine gate_callee (f := 6) rfl ?_); refine goesL_ (some 9) rfl rfl Tryd.func6 (by kernel_rfl) rfl #[] rfl (by (try simp only [List.map_toArray, List.map_cons, List.map_nil]); first | done | rfl | (simp only [List.length_drop, List.length_take]; rfl)) ?_; (with_reducible refine (wainwrightlaw28_lives.calls k  true _ A4.out).mono ?_); rintro e w10 ⟨rfl, hb⟩; refine ⟨_, rfl, ?_⟩; have n0_ := Aside0.mk (below_step (by repeat (first | (with_reducible first | exact HB.out | apply below_alloc | apply pw_below_drewN | apply below_drew1) | exact HB.out)) hb); clear HB; have HB := n0_; clear n0_; (try clear hb); (try clear hb2); (try clear hk); (try clear hi)) | ((with_reducible refine gate_callee (f := 7) rfl ?_); refine goesL_ (some 12) rfl rfl Tryd.func7 (by kernel_rfl) rfl #[.string a0] rfl (by (try simp only [List.map_toArray, List.map_cons, List.map_nil]); first | done | rfl | (simp only [List.length_drop, List.length_take]; rfl)) ?_; (with_reducible refine (wainwrightlaw28_early.calls a0 t165 _ A6.out).mono ?_); rintro e w11 ⟨rfl, hb⟩; refine ⟨_, rfl, ?_⟩; have n0_ := Aside0.mk (below_step (by repeat (first | (with_reducible first | exact HB.out | apply below_alloc | apply pw_below_drewN | apply below_drew1) | exact HB.out)) hb); clear HB; have HB := n0_; clear n0_; (try clear hb); (try clear hb2); (try clear hk); (try clear hi)) | ((with_reducible refine gate_callee (f := 7) rfl ?_); refine goesL_ (some 14) rfl rfl Tryd.func7 (by kernel_rfl) rfl #[.string a1] rfl (by (try simp only [List.map_toArray, List.map_cons, List.map_nil]); first | done | rfl | (simp only [List.length_drop, List.length_take]; rfl)) ?_; (with_reducible refine (wainwrightlaw28_early.calls a1 t166 _ A7.out).mono ?_); rintro e w12 ⟨rfl, hb⟩; refine ⟨_, rfl, ?_⟩; have n0_ := Aside0.mk (below_step (by repeat (first | (with_reducible first | exact HB.out | apply below_alloc | apply pw_below_drewN | apply below_drew1) | exact HB.out)) hb); clear HB; have HB := n0_; clear n0_; (try clear hb); (try clear hb2); (try clear hk); (try clear hi)) | ((with_reducible refine gate_callee (f := 7) rfl ?_); refine goesL_ (some 16) rfl rfl Tryd.func7 (by kernel_rfl) rfl #[.string a2] rfl (by (try simp only [List.map_toArray, List.map_cons, List.map_nil]); first | done | rfl | (simp only [List.length_drop, List.length_take]; rfl)) ?_; (with_reducible refine (wainwrightlaw28_early.calls a2 t167 _ A8.out).mono ?_); rintro e w13 ⟨rfl, hb⟩; refine ⟨_, rfl, ?_⟩; have n0_ := Aside0.mk (below_step (by repeat (first | (with_reducible first | exact HB.out | apply below_alloc | apply pw_below_drewN | apply below_drew1) | exact HB.out)) hb); clear HB; have HB := n0_; clear n0_; (try clear hb); (try clear hb2); (try clear hk); (try clear hi)))
    (try simp only [Act.put, List.setIfInBounds_toArray, List.set_cons_zero, List.set_cons_succ])
    go_cut [24] (fun v24 wc => ∃ (kq : Nat) (x24_8 : Bool), v24 = .bool x24_8 ∧ Aside0 (wainwrightlaw28_GlobJoins.j0 kq t165 t166 t167 x24_8 = some r) ∧ Aside0 (kq ≤ k) ∧ Aside0 (Below w.heap.size w wc))
    case first =>
      have H := HC9.out
      clear HC9
      replace H := Option.bind_eq_some_iff.mp H
      obtain ⟨t168, A140, H⟩ := H
      replace H : (if t168 = true then ((glob_Right.f k t166).bind fun t169 => (wainwrightlaw28_GlobJoins.j0 k t165 t166 t167 (!t169))) else (wainwrightlaw28_GlobJoins.j0 k t165 t166 t167 true)) = some r := H
      have A14 := Aside0.mk A140
      clear A140
      by_cases c15 : t168 = true
      · subst c15
        have H1 : ((glob_Right.f k t166).bind fun t169 => (wainwrightlaw28_GlobJoins.j0 k t165 t166 t167 (!t169))) = some r := by rw [if_pos rfl] at H; exact H
        clear H
        have H := H1
        clear H1
        replace H := Option.bind_eq_some_iff.mp H
        obtain ⟨t169, A160, H⟩ := H
        replace H : (wainwrightlaw28_GlobJoins.j0 k t165 t166 t167 (!t169)) = some r := H
        have A16 := Aside0.mk A160
        clear A160
        have H' := Aside0.mk H
        clear H
        go_wp2_with (first | ((with_reducible refine gate_callee (f := 9) rfl ?_); refine goesL_ (some 18) rfl rfl Tryd.func9 (by kernel_rfl) rfl #[.string t165] rfl (by (try simp only [List.map_toArray, List.map_cons, List.map_nil]); first | done | rfl | (simp only [List.length_drop, List.length_take]; rfl)) ?_; (with_reducible refine (glob_Right.calls k t165 true _ A14.out).mono ?_); rintro e w17 ⟨rfl, hb⟩; refine ⟨_, rfl, ?_⟩; have n0_ := Aside0.mk (below_step (by repeat (first | (with_reducible first | exact HB.out | apply below_alloc | apply pw_below_drewN | apply below_drew1) | exact HB.out)) hb); clear HB; have HB := n0_; clear n0_; (try clear hb); (try clear hb2); (try clear hk); (try clear hi)) | (go_at_call 9; (with_reducible refine (glob_Right.calls k t166 t169 _ A16.out).mono ?_); rintro e w18 ⟨rfl, hb⟩; have n0_ := Aside0.mk (below_step (by repeat (first | (with_reducible first | exact HB.out | apply below_alloc | apply pw_below_drewN | apply below_drew1) | exact HB.out)) hb); clear HB; have HB := n0_; clear n0_; (try clear hb); (try clear hb2); (try clear hk); (try clear hi)))
        go_meet
        case rel => exact ⟨_, (!t169), (by first | rfl | (simp; done) | (simp [*]; done) | exact gw_ne _ | exact gw_eq _), H', ⟨by first | omega | exact Nat.le_refl _⟩, ⟨by repeat (first | (with_reducible first | exact HB.out | apply below_alloc | apply pw_below_drewN | apply below_drew1) | exact HB.out)⟩⟩
      · replace c15 := Bool.eq_false_iff.mpr c15
        subst c15
        have H1 : (wainwrightlaw28_GlobJoins.j0 k t165 t166 t167 true) = some r := by rw [if_neg (show ¬ (false = true) by decide)] at H; exact H
        clear H
        have H := H1
        clear H1
        have H' := Aside0.mk H
        clear H
        go_wp2_with (first | ((with_reducible refine gate_callee (f := 9) rfl ?_); refine goesL_ (some 18) rfl rfl Tryd.func9 (by kernel_rfl) rfl #[.string t165] rfl (by (try simp only [List.map_toArray, List.map_cons, List.map_nil]); first | done | rfl | (simp only [List.length_drop, List.length_take]; rfl)) ?_; (with_reducible refine (glob_Right.calls k t165 false _ A14.out).mono ?_); rintro e w19 ⟨rfl, hb⟩; refine ⟨_, rfl, ?_⟩; have n0_ := Aside0.mk (below_step (by repeat (first | (with_reducible first | exact HB.out | apply below_alloc | apply pw_below_drewN | apply below_drew1) | exact HB.out)) hb); clear HB; have HB := n0_; clear n0_; (try clear hb); (try clear hb2); (try clear hk); (try clear hi)))
        go_meet
        case rel => exact ⟨_, (true), (by first | rfl | (simp; done) | (simp [*]; done) | exact gw_ne _ | exact gw_eq _), H', ⟨by first | omega | exact Nat.le_refl _⟩, ⟨by repeat (first | (with_reducible first | exact HB.out | apply below_alloc | apply pw_below_drewN | apply below_drew1) | exact HB.out)⟩⟩
    case rest =>
      clear HC9
      try clear c1
      try clear p2
      try clear c4
      try clear c5
      try clear c6
      try clear c7
      try clear c9
      try clear c15
      obtain ⟨kq, x24_8, rfl, HA, HJ8, HB⟩ := hcut
      cases kq with
      | zero => exact absurd HA.out (by simp [wainwrightlaw28_GlobJoins.j0])
      | succ kj8 =>
        have H := HA.out
        clear HA
        simp only [wainwrightlaw28_GlobJoins.j0] at H
        by_cases c20 : x24_8 = true
        · subst c20
          have H1 : ((glob_Match.f kj8 (⟨#[42]⟩ : ByteArray) t167).bind fun t170 => (some t170)) = some r := by rw [if_pos rfl] at H; exact H
          clear H
          have H := H1
          clear H1
          replace H := Option.bind_eq_some_iff.mp H
          obtain ⟨t170, A210, H⟩ := H
          replace H : (some t170) = some r := H
          have A21 := Aside0.mk A210
          clear A210
          obtain rfl := Option.some.inj H
          go_wp2_with (first | ((with_reducible refine gate_callee (f := 10) rfl ?_); refine goesL_ (some 26) rfl rfl Tryd.func10 (by kernel_rfl) rfl #[.string (⟨#[42]⟩ : ByteArray), .string t167] rfl (by (try simp only [List.map_toArray, List.map_cons, List.map_nil]); first | done | rfl | (simp only [List.length_drop, List.length_take]; rfl)) ?_; (with_reducible refine (glob_Match.calls kj8 (⟨#[42]⟩ : ByteArray) t167 t170 _ A21.out).mono ?_); rintro e w22 ⟨rfl, hb⟩; refine ⟨_, rfl, ?_⟩; have n0_ := Aside0.mk (below_step (by repeat (first | (with_reducible first | exact HB.out | apply below_alloc | apply pw_below_drewN | apply below_drew1) | exact HB.out)) hb); clear HB; have HB := n0_; clear n0_; (try clear hb); (try clear hb2); (try clear hk); (try clear hi)))
          go_ret
          exact ⟨by first | rfl | (simp [errW_none, errW_some] <;> rfl) | (simp [*, errW_none, errW_some] <;> rfl), by repeat (first | (with_reducible first | exact HB.out | apply below_alloc | apply pw_below_drewN | apply below_drew1) | exact HB.out)⟩
        · replace c20 := Bool.eq_false_iff.mpr c20
          subst c20
          have H1 : (wainwrightlaw28_GlobJoins.l0 kj8 t165 t166 t167 false 0) = some r := by rw [if_neg (show ¬ (false = true) by decide)] at H; exact H
          clear H
          have H := H1
          clear H1
          have H' := Aside0.mk H
          clear H
          go_wp2
          go_loopg [7, 8] kj8 (fun kq v7 v8 w' => ∃ (x7_2 : Bool) (x8_2 : Int), v7 = .bool x7_2 ∧ v8 = .int .i64 x8_2 ∧ Aside0 (wainwrightlaw28_GlobJoins.l0 kq t165 t166 t167 x7_2 x8_2 = some r) ∧ Aside0 (kq ≤ kj8) ∧ Aside0 (Below w.heap.size w w'))
          case atStart => exact ⟨(false), (0), (by first | rfl | (simp; done) | (simp [*]; done) | exact gw_ne _ | exact gw_eq _), (by first | rfl | (simp; done) | (simp [*]; done) | exact gw_ne _ | exact gw_eq _), H', ⟨Nat.le_refl _⟩, ⟨by repeat (first | (with_reducible first | exact HB.out | apply below_alloc | apply pw_below_drewN | apply below_drew1) | exact HB.out)⟩⟩
          case round =>
            clear H'
            try clear c1
            try clear c2
            try clear p2
            try clear c4
            try clear c5
            try clear c6
            try clear c7
            try clear c9
            try clear c10
            try clear c15
            try clear c20
            try clear p2
            obtain ⟨x7_2, x8_2, rfl, rfl, HA, HK2, HB⟩ := hrel
            cases gk with
            | zero => exact absurd HA.out (by simp [wainwrightlaw28_GlobJoins.l0])
            | succ k2 =>
              have H := HA.out
              clear HA
              simp only [wainwrightlaw28_GlobJoins.l0] at H
              by_cases c23 : x8_2 ≤ (t167.size : Int)
              · rw [if_pos c23] at H
                have c23b0 : decide (x8_2 ≤ (t167.size : Int)) = true := decide_eq_true c23
                clear c23
                by_cases c24 : x7_2 = true
                · subst c24
                  have H1 : (wainwrightlaw28_GlobJoins.l0 k2 t165 t166 t167 true (wrap64 (x8_2 + 1))) = some r := by rw [if_pos rfl] at H; exact H
                  clear H
                  have H := H1
                  clear H1
                  have H' := Aside0.mk H
                  clear H
                  go_wp2
                  go_roundg k2
                  case measure => have := HJ8.out; have := HK2.out; omega
                  case rel => exact ⟨(true), (wrap64 (x8_2 + 1)), (by first | rfl | (simp; done) | (simp [*]; done) | exact gw_ne _ | exact gw_eq _), (by first | rfl | (simp; done) | (simp [*]; done) | exact gw_ne _ | exact gw_eq _), H', ⟨by have := HJ8.out; have := HK2.out; omega⟩, ⟨by repeat (first | (with_reducible first | exact HB.out | apply below_alloc | apply pw_below_drewN | apply below_drew1) | exact HB.out)⟩⟩
                · replace c24 := Bool.eq_false_iff.mpr c24
                  subst c24
                  have H1 : (if 0 ≤ x8_2 then ((glob_Match.f k2 t165 (t167.extract 0 (x8_2 : Int).toNat)).bind fun t171 => (if t171 = true then ((glob_Match.f k2 t166 (t167.extract (x8_2 : Int).toNat t167.size)).bind fun t172 => (wainwrightlaw28_GlobJoins.l0 k2 t165 t166 t167 t172 (wrap64 (x8_2 + 1)))) else (wainwrightlaw28_GlobJoins.l0 k2 t165 t166 t167 false (wrap64 (x8_2 + 1))))) else (none)) = some r := by rw [if_neg (show ¬ (false = true) by decide)] at H; exact H
                  clear H
                  have H := H1
                  clear H1
                  by_cases c25 : 0 ≤ x8_2
                  · rw [if_pos c25] at H
                    have c25b0 := eq_true c25
                    have c25b1 : decide (0 ≤ x8_2) = true := decide_eq_true c25
                    clear c25
                    have c26b0 := eq_true (of_decide_eq_true (by first | (with_reducible assumption) | assumption) : x8_2 ≤ (t167.size : Int))
                    replace H := Option.bind_eq_some_iff.mp H
                    obtain ⟨t171, A270, H⟩ := H
                    replace H : (if t171 = true then ((glob_Match.f k2 t166 (t167.extract (x8_2 : Int).toNat t167.size)).bind fun t172 => (wainwrightlaw28_GlobJoins.l0 k2 t165 t166 t167 t172 (wrap64 (x8_2 + 1)))) else (wainwrightlaw28_GlobJoins.l0 k2 t165 t166 t167 false (wrap64 (x8_2 + 1)))) = some r := H
                    have A27 := Aside0.mk A270
                    clear A270
                    by_cases c28 : t171 = true
                    · subst c28
                      have H1 : ((glob_Match.f k2 t166 (t167.extract (x8_2 : Int).toNat t167.size)).bind fun t172 => (wainwrightlaw28_GlobJoins.l0 k2 t165 t166 t167 t172 (wrap64 (x8_2 + 1)))) = some r := by rw [if_pos rfl] at H; exact H
                      clear H
                      have H := H1
                      clear H1
                      have c29b0 := eq_true (of_decide_eq_true (by first | (with_reducible assumption) | assumption) : 0 ≤ x8_2)
                      have c30b0 := eq_true (of_decide_eq_true (by first | (with_reducible assumption) | assumption) : x8_2 ≤ (t167.size : Int))
                      replace H := Option.bind_eq_some_iff.mp H
                      obtain ⟨t172, A310, H⟩ := H
                      replace H : (wainwrightlaw28_GlobJoins.l0 k2 t165 t166 t167 t172 (wrap64 (x8_2 + 1))) = some r := H
                      have A31 := Aside0.mk A310
                      clear A310
                      have H' := Aside0.mk H
                      clear H
                      go_wp2_with (first | (go_at_call 10; (with_reducible refine (glob_Match.calls k2 t165 (t167.extract 0 (x8_2 : Int).toNat) true _ A27.out).mono ?_); rintro e w32 ⟨rfl, hb⟩; have n0_ := Aside0.mk (below_step (by repeat (first | (with_reducible first | exact HB.out | apply below_alloc | apply pw_below_drewN | apply below_drew1) | exact HB.out)) hb); clear HB; have HB := n0_; clear n0_; (try clear hb); (try clear hb2); (try clear hk); (try clear hi)) | (go_at_call 10; (with_reducible refine (glob_Match.calls k2 t166 (t167.extract (x8_2 : Int).toNat t167.size) t172 _ A31.out).mono ?_); rintro e w33 ⟨rfl, hb⟩; have n0_ := Aside0.mk (below_step (by repeat (first | (with_reducible first | exact HB.out | apply below_alloc | apply pw_below_drewN | apply below_drew1) | exact HB.out)) hb); clear HB; have HB := n0_; clear n0_; (try clear hb); (try clear hb2); (try clear hk); (try clear hi)))
                      go_roundg k2
                      case measure => have := HJ8.out; have := HK2.out; omega
                      case rel => exact ⟨(t172), (wrap64 (x8_2 + 1)), (by first | rfl | (simp; done) | (simp [*]; done) | exact gw_ne _ | exact gw_eq _), (by first | rfl | (simp; done) | (simp [*]; done) | exact gw_ne _ | exact gw_eq _), H', ⟨by have := HJ8.out; have := HK2.out; omega⟩, ⟨by repeat (first | (with_reducible first | exact HB.out | apply below_alloc | apply pw_below_drewN | apply below_drew1) | exact HB.out)⟩⟩
                    · replace c28 := Bool.eq_false_iff.mpr c28
                      subst c28
                      have H1 : (wainwrightlaw28_GlobJoins.l0 k2 t165 t166 t167 false (wrap64 (x8_2 + 1))) = some r := by rw [if_neg (show ¬ (false = true) by decide)] at H; exact H
                      clear H
                      have H := H1
                      clear H1
                      have H' := Aside0.mk H
                      clear H
                      go_wp2_with (first | (go_at_call 10; (with_reducible refine (glob_Match.calls k2 t165 (t167.extract 0 (x8_2 : Int).toNat) false _ A27.out).mono ?_); rintro e w34 ⟨rfl, hb⟩; have n0_ := Aside0.mk (below_step (by repeat (first | (with_reducible first | exact HB.out | apply below_alloc | apply pw_below_drewN | apply below_drew1) | exact HB.out)) hb); clear HB; have HB := n0_; clear n0_; (try clear hb); (try clear hb2); (try clear hk); (try clear hi)))
                      go_roundg k2
                      case measure => have := HJ8.out; have := HK2.out; omega
                      case rel => exact ⟨(false), (wrap64 (x8_2 + 1)), (by first | rfl | (simp; done) | (simp [*]; done) | exact gw_ne _ | exact gw_eq _), (by first | rfl | (simp; done) | (simp [*]; done) | exact gw_ne _ | exact gw_eq _), H', ⟨by have := HJ8.out; have := HK2.out; omega⟩, ⟨by repeat (first | (with_reducible first | exact HB.out | apply below_alloc | apply pw_below_drewN | apply below_drew1) | exact HB.out)⟩⟩
                  · rw [if_neg c25] at H
                    exact absurd H (by simp)
              · rw [if_neg c23] at H
                have c23b0 : decide (x8_2 ≤ (t167.size : Int)) = false := decide_eq_false c23
                clear c23
                by_cases c35 : t165.size + t166.size ≤ 9223372036854775807
                · rw [if_pos c35] at H
                  have c35b0 := eq_true c35
                  have c35b1 : decide (t165.size + t166.size ≤ 9223372036854775807) = true := decide_eq_true c35
                  try have c35b2 : (9223372036854775807 < t165.size + t166.size) = False := eq_false (Nat.not_lt.2 c35)
                  replace H := Option.bind_eq_some_iff.mp H
                  obtain ⟨t173, A360, H⟩ := H
                  replace H : (if (t173 == x7_2) = true then ((glob_Match.f k2 (⟨#[42]⟩ : ByteArray) t167).bind fun t174 => (if t174 = true then ((glob_Match.f k2 (⟨#[42, 42]⟩ : ByteArray) t167).bind fun t175 => (some t175)) else (some false))) else (some false)) = some r := H
                  have A36 := Aside0.mk A360
                  clear A360
                  by_cases c37 : (t173 == x7_2) = true
                  · rw [if_pos c37] at H
                    have c37b0 : (t173 == x7_2) = true := c37
                    (try (have c37b1 : decide (t173 = x7_2) = true := by simpa using c37))
                    (try (have c37b2 : (t173 == x7_2) = true := by simpa using c37))
                    clear c37
                    replace H := Option.bind_eq_some_iff.mp H
                    obtain ⟨t174, A380, H⟩ := H
                    replace H : (if t174 = true then ((glob_Match.f k2 (⟨#[42, 42]⟩ : ByteArray) t167).bind fun t175 => (some t175)) else (some false)) = some r := H
                    have A38 := Aside0.mk A380
                    clear A380
                    by_cases c39 : t174 = true
                    · subst c39
                      have H1 : ((glob_Match.f k2 (⟨#[42, 42]⟩ : ByteArray) t167).bind fun t175 => (some t175)) = some r := by rw [if_pos rfl] at H; exact H
                      clear H
                      have H := H1
                      clear H1
                      replace H := Option.bind_eq_some_iff.mp H
                      obtain ⟨t175, A400, H⟩ := H
                      replace H : (some t175) = some r := H
                      have A40 := Aside0.mk A400
                      clear A400
                      obtain rfl := Option.some.inj H
                      go_wp2_with (first | ((with_reducible refine gate_callee (f := 10) rfl ?_); refine goesL_ (some 52) rfl rfl Tryd.func10 (by kernel_rfl) rfl #[.string (t165 ++ t166), .string t167] rfl (by (try simp only [List.map_toArray, List.map_cons, List.map_nil]); first | done | rfl | (simp only [List.length_drop, List.length_take]; rfl)) ?_; (with_reducible refine (glob_Match.calls k2 (t165 ++ t166) t167 t173 _ A36.out).mono ?_); rintro e w41 ⟨rfl, hb⟩; refine ⟨_, rfl, ?_⟩; have n0_ := Aside0.mk (below_step (by repeat (first | (with_reducible first | exact HB.out | apply below_alloc | apply pw_below_drewN | apply below_drew1) | exact HB.out)) hb); clear HB; have HB := n0_; clear n0_; (try clear hb); (try clear hb2); (try clear hk); (try clear hi)) | (go_at_call 10; (with_reducible refine (glob_Match.calls k2 (⟨#[42]⟩ : ByteArray) t167 true _ A38.out).mono ?_); rintro e w42 ⟨rfl, hb⟩; have n0_ := Aside0.mk (below_step (by repeat (first | (with_reducible first | exact HB.out | apply below_alloc | apply pw_below_drewN | apply below_drew1) | exact HB.out)) hb); clear HB; have HB := n0_; clear n0_; (try clear hb); (try clear hb2); (try clear hk); (try clear hi)) | (go_at_call 10; (with_reducible refine (glob_Match.calls k2 (⟨#[42, 42]⟩ : ByteArray) t167 t175 _ A40.out).mono ?_); rintro e w43 ⟨rfl, hb⟩; have n0_ := Aside0.mk (below_step (by repeat (first | (with_reducible first | exact HB.out | apply below_alloc | apply pw_below_drewN | apply below_drew1) | exact HB.out)) hb); clear HB; have HB := n0_; clear n0_; (try clear hb); (try clear hb2); (try clear hk); (try clear hi)))
                      go_ret
                      exact ⟨by first | rfl | (simp [errW_none, errW_some] <;> rfl) | (simp [*, errW_none, errW_some] <;> rfl), by repeat (first | (with_reducible first | exact HB.out | apply below_alloc | apply pw_below_drewN | apply below_drew1) | exact HB.out)⟩
                    · replace c39 := Bool.eq_false_iff.mpr c39
                      subst c39
                      have H1 : (some false) = some r := by rw [if_neg (show ¬ (false = true) by decide)] at H; exact H
                      clear H
                      have H := H1
                      clear H1
                      obtain rfl := Option.some.inj H
                      go_wp2_with (first | ((with_reducible refine gate_callee (f := 10) rfl ?_); refine goesL_ (some 52) rfl rfl Tryd.func10 (by kernel_rfl) rfl #[.string (t165 ++ t166), .string t167] rfl (by (try simp only [List.map_toArray, List.map_cons, List.map_nil]); first | done | rfl | (simp only [List.length_drop, List.length_take]; rfl)) ?_; (with_reducible refine (glob_Match.calls k2 (t165 ++ t166) t167 t173 _ A36.out).mono ?_); rintro e w44 ⟨rfl, hb⟩; refine ⟨_, rfl, ?_⟩; have n0_ := Aside0.mk (below_step (by repeat (first | (with_reducible first | exact HB.out | apply below_alloc | apply pw_below_drewN | apply below_drew1) | exact HB.out)) hb); clear HB; have HB := n0_; clear n0_; (try clear hb); (try clear hb2); (try clear hk); (try clear hi)) | (go_at_call 10; (with_reducible refine (glob_Match.calls k2 (⟨#[42]⟩ : ByteArray) t167 false _ A38.out).mono ?_); rintro e w45 ⟨rfl, hb⟩; have n0_ := Aside0.mk (below_step (by repeat (first | (with_reducible first | exact HB.out | apply below_alloc | apply pw_below_drewN | apply below_drew1) | exact HB.out)) hb); clear HB; have HB := n0_; clear n0_; (try clear hb); (try clear hb2); (try clear hk); (try clear hi)))
                      go_ret
                      exact ⟨by first | rfl | (simp [errW_none, errW_some] <;> rfl) | (simp [*, errW_none, errW_some] <;> rfl), by repeat (first | (with_reducible first | exact HB.out | apply below_alloc | apply pw_below_drewN | apply below_drew1) | exact HB.out)⟩
                  · rw [if_neg c37] at H
                    have c37b0 : (t173 == x7_2) = false := by simpa using c37
                    (try (have c37b1 : decide (t173 = x7_2) = false := by simpa using c37))
                    (try (have c37b2 : (t173 == x7_2) = false := by simpa using c37))
                    (try (have c37b3 : ¬ (t173 = x7_2) := by simpa using c37))
                    clear c37
                    obtain rfl := Option.some.inj H
                    go_wp2_with (first | ((with_reducible refine gate_callee (f := 10) rfl ?_); refine goesL_ (some 52) rfl rfl Tryd.func10 (by kernel_rfl) rfl #[.string (t165 ++ t166), .string t167] rfl (by (try simp only [List.map_toArray, List.map_cons, List.map_nil]); first | done | rfl | (simp only [List.length_drop, List.length_take]; rfl)) ?_; (with_reducible refine (glob_Match.calls k2 (t165 ++ t166) t167 t173 _ A36.out).mono ?_); rintro e w46 ⟨rfl, hb⟩; refine ⟨_, rfl, ?_⟩; have n0_ := Aside0.mk (below_step (by repeat (first | (with_reducible first | exact HB.out | apply below_alloc | apply pw_below_drewN | apply below_drew1) | exact HB.out)) hb); clear HB; have HB := n0_; clear n0_; (try clear hb); (try clear hb2); (try clear hk); (try clear hi)))
                    go_ret
                    exact ⟨by first | rfl | (simp [errW_none, errW_some] <;> rfl) | (simp [*, errW_none, errW_some] <;> rfl), by repeat (first | (with_reducible first | exact HB.out | apply below_alloc | apply pw_below_drewN | apply below_drew1) | exact HB.out)⟩
                · rw [if_neg c35] at H
                  exact absurd H (by simp)
  · replace c5 := Bool.eq_false_iff.mpr c5
    subst c5
    have H1 : (some false) = some r := by rw [if_neg (show ¬ (false = true) by decide)] at H; exact H
    clear H
    have H := H1
    clear H1
    obtain rfl := Option.some.inj H
    go_enter Tryd.func4, Tryd.ntmps4
    go_wp2_with (first | ((with_reducible refine gate_callee (f := 6) rfl ?_); refine goesL_ (some 9) rfl rfl Tryd.func6 (by kernel_rfl) rfl #[] rfl (by (try simp only [List.map_toArray, List.map_cons, List.map_nil]); first | done | rfl | (simp only [List.length_drop, List.length_take]; rfl)) ?_; (with_reducible refine (wainwrightlaw28_lives.calls k  false _ A4.out).mono ?_); rintro e w47 ⟨rfl, hb⟩; refine ⟨_, rfl, ?_⟩; have n0_ := Aside0.mk (below_step (by repeat (first | (with_reducible first | exact HB.out | apply below_alloc | apply pw_below_drewN | apply below_drew1) | exact HB.out)) hb); clear HB; have HB := n0_; clear n0_; (try clear hb); (try clear hb2); (try clear hk); (try clear hi)))
    go_ret
    exact ⟨by first | rfl | (simp [errW_none, errW_some] <;> rfl) | (simp [*, errW_none, errW_some] <;> rfl), by repeat (first | (with_reducible first | exact HB.out | apply below_alloc | apply pw_below_drewN | apply below_drew1) | exact HB.out)⟩

/-- THE ONE PURE STATEMENT of wainwrightlaw28_GlobJoins: yours. -/
def wainwrightlaw28_GlobJoins.Pure : Prop := ∀ (a0 : ByteArray) (a1 : ByteArray) (a2 : ByteArray), a0.size ≤ 140737488351232 → a1.size ≤ 140737488351232 → a2.size ≤ 140737488351232 → ∃ k, wainwrightlaw28_GlobJoins.f k a0 a1 a2 = some true
theorem wainwrightlaw28_GlobJoins.walk (P : wainwrightlaw28_GlobJoins.Pure) (a0 : ByteArray) (a1 : ByteArray) (a2 : ByteArray) (w : World) (w0 : a0.size ≤ 140737488351232) (w1 : a1.size ≤ 140737488351232) (w2 : a2.size ≤ 140737488351232) :
    Calls Tryd.prog 4 #[.string a0, .string a1, .string a2] w fun e w' => e = .returned (.bool true) ∧ Below w.heap.size w w' := by
  obtain ⟨k, h⟩ := P a0 a1 a2 w0 w1 w2
  refine (wainwrightlaw28_GlobJoins.calls k a0 a1 a2 true w h).mono ?_
  rintro e w' ⟨rfl, hd⟩
  exact ⟨rfl, hd⟩

end Go.Proofs.YtefomcoimbnalaaDoor.GGlb
