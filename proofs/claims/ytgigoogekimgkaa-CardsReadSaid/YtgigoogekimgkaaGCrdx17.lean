/- printed for this claim by gprint.py, a program of this session, that drives the kit's printer. -/
import Derived.Test.YtgigoogekimgkaaGCrdx0
import Derived.Test.YtgigoogekimgkaaZ
import Derived.Test.YtgigoogekimgkaaGCrdx15
namespace Go.Proofs.Ytgigoogekimgkaa.GCrd
open Go.RowKit Go.Proofs.YtgigoogekimgkaaW.PrintWords Go.Proofs.YtgigoogekimgkaaW.PrintLast Go.Proofs.YtgigoogekimgkaaW.PrintMore
attribute [local go_sem] max2_int min2_int max_two min_two max_three min_three max_four min_four   -- for this text's walks alone
set_option linter.unusedVariables false
set_option linter.unusedSimpArgs false

/-! ### r1_Read: function 37 -/
mutual
def r1_Read.l0 : Nat → List Int → ByteArray → List Int → Int → Int → Option (List Int × Int)
 | 0, _, _, _, _, _ => none
 | k + 1, x0, x1, x6, x7, x8 => if x8 < (x0.length : Int) then (if 0 ≤ x8 then (r1_Read.l1 k x0 x1 x6 x7 x8 0 (wrap64 ((rd x0 x8) - 1))) else (none)) else (some (x6, 0))
def r1_Read.l1 : Nat → List Int → ByteArray → List Int → Int → Int → Int → Int → Option (List Int × Int)
 | 0, _, _, _, _, _, _, _ => none
 | k + 1, x0, x1, x6, x7, x8, x9, x10 => if x10 ≥ 0 then (if 0 ≤ (wrap64 (x7 + x10)) then (if (wrap64 (x7 + x10)) < (x1.size : Int) then (r1_Read.l1 k x0 x1 x6 x7 x8 (wrap64 ((wrap64 (256 * x9)) + (wrap64 (bt x1 (wrap64 (x7 + x10)))))) (wrap64 (x10 - 1))) else (none)) else (none)) else (if x6.length < 17592186044416 then (if 0 ≤ x8 then (if x8 < (x0.length : Int) then (r1_Read.l0 k x0 x1 (x6 ++ [x9]) (wrap64 (x7 + (rd x0 x8))) (wrap64 (x8 + 1))) else (none)) else (none)) else (none))
end
def r1_Read.f (k : Nat) (l0 : List Int) (a1 : ByteArray) : Option (List Int × Int) := (r1_Size.f k l0).bind fun t391 => (if t391 < 0 then (some (([] : List Int), 1)) else ((r1_Size.f k l0).bind fun t392 => (if (a1.size : Int) < t392 then (some (([] : List Int), 2)) else (r1_Read.l0 k l0 a1 ([] : List Int) 0 0))))
theorem r1_Read.mono_l : ∀ k, (∀ y0 y1 y2 y3 y4, LeO (r1_Read.l0 k y0 y1 y2 y3 y4) (r1_Read.l0 (k + 1) y0 y1 y2 y3 y4)) ∧ (∀ y0 y1 y2 y3 y4 y5 y6, LeO (r1_Read.l1 k y0 y1 y2 y3 y4 y5 y6) (r1_Read.l1 (k + 1) y0 y1 y2 y3 y4 y5 y6))
 | 0 => ⟨fun _ _ _ _ _ r h => by simp [r1_Read.l0] at h, fun _ _ _ _ _ _ _ r h => by simp [r1_Read.l1] at h⟩
 | k + 1 => by
   obtain ⟨ih0, ih1⟩ := r1_Read.mono_l k
   refine ⟨?_, ?_⟩
   · intro y0 y1 y2 y3 y4
     unfold r1_Read.l0
     repeat' first
     | (with_reducible exact ih0 _ _ _ _ _)
     | (with_reducible exact ih1 _ _ _ _ _ _ _)
     | (with_reducible exact r1_Size.mono _ _)
     | (with_reducible exact LeO.refl _)
     | (with_reducible exact LeO.none _)
     | (with_reducible refine LeO.ite ?_ ?_)
     | (with_reducible refine LeO.bind ?_ (fun _ => ?_))
     | exact ih0 _ _ _ _ _
     | exact ih1 _ _ _ _ _ _ _
     | exact r1_Size.mono _ _
     | exact LeO.none _
     | refine LeO.ite ?_ ?_
     | refine LeO.bind ?_ (fun _ => ?_)
   · intro y0 y1 y2 y3 y4 y5 y6
     unfold r1_Read.l1
     repeat' first
     | (with_reducible exact ih0 _ _ _ _ _)
     | (with_reducible exact ih1 _ _ _ _ _ _ _)
     | (with_reducible exact r1_Size.mono _ _)
     | (with_reducible exact LeO.refl _)
     | (with_reducible exact LeO.none _)
     | (with_reducible refine LeO.ite ?_ ?_)
     | (with_reducible refine LeO.bind ?_ (fun _ => ?_))
     | exact ih0 _ _ _ _ _
     | exact ih1 _ _ _ _ _ _ _
     | exact r1_Size.mono _ _
     | exact LeO.none _
     | refine LeO.ite ?_ ?_
     | refine LeO.bind ?_ (fun _ => ?_)
theorem r1_Read.mono : ∀ a0 a1 k, LeO (r1_Read.f k a0 a1) (r1_Read.f (k + 1) a0 a1) := by
 intro a0 a1 k
 obtain ⟨ih0, ih1⟩ := r1_Read.mono_l k
 unfold r1_Read.f
 repeat' first
  | (with_reducible exact ih0 _ _ _ _ _)
  | (with_reducible exact ih1 _ _ _ _ _ _ _)
  | (with_reducible exact r1_Size.mono _ _)
  | (with_reducible exact LeO.refl _)
  | (with_reducible exact LeO.none _)
  | (with_reducible refine LeO.ite ?_ ?_)
  | (with_reducible refine LeO.bind ?_ (fun _ => ?_))
  | exact ih0 _ _ _ _ _
  | exact ih1 _ _ _ _ _ _ _
  | exact r1_Size.mono _ _
  | exact LeO.none _
  | refine LeO.ite ?_ ?_
  | refine LeO.bind ?_ (fun _ => ?_)
set_option maxHeartbeats 8000000 in
set_option maxRecDepth 100000 in
theorem r1_Read.calls (k : Nat) (A0 : Option Addr) (c0 : Nat) (l0 : List Int) (a1 : ByteArray) (r1 : List Int) (r2 : Int) (w : World) (hr0 : Kd.C (Kd.int .i64) w A0 l0.length l0) (hc0 : l0.length ≤ c0) (h : r1_Read.f k l0 a1 = some (r1, r2)) :
 Calls Try.prog 37 #[.slice A0 l0.length c0, .string a1] w fun e w' => ∃ v0_ : Value, e = .returned (.tuple #[v0_, .int .i64 r2]) ∧ Kd.R (Kd.int .i64) 3 w' w.heap.size (fun _ => True) v0_ r1 ∧ Below w.heap.size w w' := by
 have HR0 := Aside0.mk hr0
 have HC0 := Aside0.mk hc0
 clear hr0 hc0
 have HB := Aside0.mk (Below.refl w.heap.size w)
 have H : ((r1_Size.f k l0).bind fun t391 => (if t391 < 0 then (some (([] : List Int), 1)) else ((r1_Size.f k l0).bind fun t392 => (if (a1.size : Int) < t392 then (some (([] : List Int), 2)) else (r1_Read.l0 k l0 a1 ([] : List Int) 0 0))))) = some (r1, r2) := h
 clear h
 replace H := Option.bind_eq_some_iff.mp H
 obtain ⟨t391, A30, H⟩ := H
 replace H : (if t391 < 0 then (some (([] : List Int), 1)) else ((r1_Size.f k l0).bind fun t392 => (if (a1.size : Int) < t392 then (some (([] : List Int), 2)) else (r1_Read.l0 k l0 a1 ([] : List Int) 0 0)))) = some (r1, r2) := H
 have A3 := Aside0.mk A30
 clear A30
 by_cases c4 : t391 < 0
 · rw [if_pos c4] at H
   have c4b0 : decide (t391 < 0) = true := decide_eq_true c4
   clear c4
   simp only [Option.some.injEq, Prod.mk.injEq] at H
   obtain ⟨rfl, rfl⟩ := H
   go_enter Try.func37, Try.ntmps37
   go_wp2_with (first | ((with_reducible refine gate_callee (f := 55) rfl ?_); refine zgl (some 12) Try.func55 #[.slice A0 l0.length c0] ?_; (with_reducible refine (r1_Size.calls k _ _ l0 t391 _ ?side1 ?side2 A3.out).mono ?_); (case side1 => exact zc (HR0.out)); (case side2 => exact HC0.out); rintro e w' ⟨rfl, ⟨nd, rfl⟩⟩; refine ⟨_, rfl, ?_⟩))
   go_ret2
   exact ⟨_, ze, by first | exact Kd.R_nil _ _ _ _ _ | exact Kd.N_nil _ _ _ _ _ | exact Kd.V_nil _ _ _ _ _ | exact Kd.Q_nil _ _ _ _ _ | exact Kd.S_nil _ _ _ _ _, zh0 HB.out⟩
 · rw [if_neg c4] at H
   have c4b0 : decide (t391 < 0) = false := decide_eq_false c4
   clear c4
   replace H := Option.bind_eq_some_iff.mp H
   obtain ⟨t392, A50, H⟩ := H
   replace H : (if (a1.size : Int) < t392 then (some (([] : List Int), 2)) else (r1_Read.l0 k l0 a1 ([] : List Int) 0 0)) = some (r1, r2) := H
   have A5 := Aside0.mk A50
   clear A50
   by_cases c6 : (a1.size : Int) < t392
   · rw [if_pos c6] at H
     have c6b0 : decide ((a1.size : Int) < t392) = true := decide_eq_true c6
     clear c6
     simp only [Option.some.injEq, Prod.mk.injEq] at H
     obtain ⟨rfl, rfl⟩ := H
     go_enter Try.func37, Try.ntmps37
     go_wp2_with (first | ((with_reducible refine gate_callee (f := 55) rfl ?_); refine zgl (some 12) Try.func55 #[.slice A0 l0.length c0] ?_; (with_reducible refine (r1_Size.calls k _ _ l0 t391 _ ?side1 ?side2 A3.out).mono ?_); (case side1 => exact zc (HR0.out)); (case side2 => exact HC0.out); rintro e w' ⟨rfl, ⟨nd, rfl⟩⟩; refine ⟨_, rfl, ?_⟩) | ((with_reducible refine gate_callee (f := 55) rfl ?_); refine zgl (some 17) Try.func55 #[.slice A0 l0.length c0] ?_; (with_reducible refine (r1_Size.calls k _ _ l0 t392 _ ?side1 ?side2 A5.out).mono ?_); (case side1 => exact zc (HR0.out)); (case side2 => exact HC0.out); rintro e w' ⟨rfl, ⟨nd, rfl⟩⟩; refine ⟨_, rfl, ?_⟩))
     go_ret2
     exact ⟨_, ze, by first | exact Kd.R_nil _ _ _ _ _ | exact Kd.N_nil _ _ _ _ _ | exact Kd.V_nil _ _ _ _ _ | exact Kd.Q_nil _ _ _ _ _ | exact Kd.S_nil _ _ _ _ _, zh0 HB.out⟩
   · rw [if_neg c6] at H
     have c6b0 : decide ((a1.size : Int) < t392) = false := decide_eq_false c6
     clear c6
     have H' := Aside0.mk H
     clear H
     go_enter Try.func37, Try.ntmps37
     go_wp2_with (first | ((with_reducible refine gate_callee (f := 55) rfl ?_); refine zgl (some 12) Try.func55 #[.slice A0 l0.length c0] ?_; (with_reducible refine (r1_Size.calls k _ _ l0 t391 _ ?side1 ?side2 A3.out).mono ?_); (case side1 => exact zc (HR0.out)); (case side2 => exact HC0.out); rintro e w' ⟨rfl, ⟨nd, rfl⟩⟩; refine ⟨_, rfl, ?_⟩) | ((with_reducible refine gate_callee (f := 55) rfl ?_); refine zgl (some 17) Try.func55 #[.slice A0 l0.length c0] ?_; (with_reducible refine (r1_Size.calls k _ _ l0 t392 _ ?side1 ?side2 A5.out).mono ?_); (case side1 => exact zc (HR0.out)); (case side2 => exact HC0.out); rintro e w' ⟨rfl, ⟨nd, rfl⟩⟩; refine ⟨_, rfl, ?_⟩))
     go_loopg [6, 7, 8] k (fun kq v6 v7 v8 w' => ∃ (x6_1 : List Int) (x7_1 : Int) (x8_1 : Int), v7 = .int .i64 x7_1 ∧ v8 = .int .i64 x8_1 ∧ Aside0 (r1_Read.l0 kq l0 a1 x6_1 x7_1 x8_1 = some (r1, r2)) ∧ Aside0 (kq ≤ k) ∧ Aside0 (Kd.R (Kd.int .i64) 3 w' w.heap.size (fun _ => True) v6 x6_1) ∧ Aside0 (Below w.heap.size w w'))
     case atStart => exact ⟨(([] : List Int)), (0), (0), (zs), (zs), H', ⟨Nat.le_refl _⟩, ⟨by first | exact Kd.R_nil _ _ _ _ _ | exact Kd.N_nil _ _ _ _ _ | exact Kd.V_nil _ _ _ _ _ | exact Kd.Q_nil _ _ _ _ _ | exact Kd.S_nil _ _ _ _ _⟩, ⟨zh0 HB.out⟩⟩
     case round =>
      clear H'
      (try clear p2); (try clear c3)
      (try clear c4); (try clear c4b0)
      (try clear c5); (try clear c6); (try clear c6b0)
      obtain ⟨x6_1, x7_1, x8_1, rfl, rfl, HA, HK1, HO_6, HB⟩ := hrel
      cases gk with
      | zero => exact absurd HA.out (by simp [r1_Read.l0])
      | succ k1 =>
        have H := HA.out
        clear HA
        simp only [r1_Read.l0] at H
        by_cases c7 : x8_1 < (l0.length : Int)
        · rw [if_pos c7] at H
          have c7b0 : decide (x8_1 < (l0.length : Int)) = true := decide_eq_true c7
          clear c7
          by_cases c8 : 0 ≤ x8_1
          · rw [if_pos c8] at H
            have c8b0 : decide (0 ≤ x8_1) = true := decide_eq_true c8
            clear c8
            have H' := Aside0.mk H
            clear H
            have p393 : 0 ≤ (x8_1 : Int) := zd
            have q393 : x8_1 < (l0.length : Int) := zd
            obtain ⟨ad393, e393, hx393_0⟩ := Kd.at_int HR0.out x8_1 p393 q393
            cases e393
            replace hx393_0 := pw_cell_below HB.out hx393_0
            replace p393 := eq_true p393
            replace q393 := eq_true q393
            go_wp2
            go_loopg [9, 10] k1 (fun kq v9 v10 w' => ∃ (x9_2 : Int) (x10_2 : Int), v9 = .int .i64 x9_2 ∧ v10 = .int .i64 x10_2 ∧ Aside0 (r1_Read.l1 kq l0 a1 x6_1 x7_1 x8_1 x9_2 x10_2 = some (r1, r2)) ∧ Aside0 (kq ≤ k1) ∧ Aside0 (Kd.R (Kd.int .i64) 3 w' w.heap.size (fun _ => True) u6 x6_1) ∧ Aside0 (Below w.heap.size w w'))
            case atStart => exact ⟨(0), (wrap64 ((rd l0 x8_1) - 1)), (zs), (zs), H', ⟨Nat.le_refl _⟩, ⟨zr HO_6.out⟩, ⟨zh0 HB.out⟩⟩
            case round =>
             clear H'
             (try clear p2); (try clear c3)
             (try clear p3); (try clear q3)
             (try clear hx3); (try clear c4)
             (try clear c4b0); (try clear c5)
             (try clear c6); (try clear c6b0)
             (try clear p6); (try clear c7)
             (try clear c7b0); (try clear c8)
             (try clear c8b0); (try clear hx393_0)
             (try clear p2); (try clear p393); (try clear q393)
             obtain ⟨x9_2, x10_2, rfl, rfl, HA, HK2, HO_6, HB⟩ := hrel
             cases gk with
             | zero => exact absurd HA.out (by simp [r1_Read.l1])
             | succ k2 =>
               have H := HA.out
               clear HA
               simp only [r1_Read.l1] at H
               by_cases c9 : x10_2 ≥ 0
               · rw [if_pos c9] at H
                 have c9b0 : decide (0 ≤ x10_2) = true := decide_eq_true c9
                 clear c9
                 obtain ⟨ji10, hji10⟩ : ∃ j_ : Int, (wrap64 (x7_1 + x10_2)) = j_ := ⟨_, rfl⟩
                 replace H : (if 0 ≤ (ji10) then (if (ji10) < (a1.size : Int) then (r1_Read.l1 k2 l0 a1 x6_1 x7_1 x8_1 (wrap64 ((wrap64 (256 * x9_2)) + (wrap64 (bt a1 (ji10))))) (wrap64 (x10_2 - 1))) else (none)) else (none)) = some (r1, r2) := by first | (rw [hji10] at H; exact H) | (simp only [hji10] at H ⊢; exact H)
                 have hji10w : (IntKind.i64.wrap (x7_1 + x10_2)) = ji10 := (i64_w _).trans hji10
                 by_cases c11 : 0 ≤ (ji10)
                 · rw [if_pos c11] at H
                   have c11b0 : decide (0 ≤ (ji10)) = true := decide_eq_true c11
                   clear c11
                   by_cases c12 : (ji10) < (a1.size : Int)
                   · rw [if_pos c12] at H
                     have c12b0 : decide ((ji10) < (a1.size : Int)) = true := decide_eq_true c12
                     clear c12
                     have H' := Aside0.mk H
                     clear H
                     have p13 : 0 ≤ ((ji10) : Int) := zd
                     have q13 : (ji10) < (a1.size : Int) := zd
                     have hx13 := bt_at a1 (ji10)
                     replace p13 := eq_true p13
                     replace q13 := eq_true q13
                     go_wp2
                     go_roundg k2
                     case measure => have := HK1.out; have := HK2.out; omega
                     case rel => exact ⟨(wrap64 ((wrap64 (256 * x9_2)) + (wrap64 (bt a1 (ji10))))), (wrap64 (x10_2 - 1)), (by first | rfl | (simp; done) | (simp only [← hji10] <;> (first | rfl | simp)) | (simp [*]; done)), (zs), H', ⟨by have := HK1.out; have := HK2.out; omega⟩, ⟨zr HO_6.out⟩, ⟨zh0 HB.out⟩⟩
                   · rw [if_neg c12] at H
                     exact absurd H (by simp)
                 · rw [if_neg c11] at H
                   exact absurd H (by simp)
               · rw [if_neg c9] at H
                 have c9b0 : decide (0 ≤ x10_2) = false := decide_eq_false c9
                 clear c9
                 by_cases c14 : x6_1.length < 17592186044416
                 · rw [if_pos c14] at H
                   have LMc14 := Aside0.mk c14
                   clear c14
                   obtain ⟨y394, hy394⟩ : ∃ y_ : List Int, y_ = (x6_1 ++ [x9_2]) := ⟨_, rfl⟩
                   replace H : (if 0 ≤ x8_1 then (if x8_1 < (l0.length : Int) then (r1_Read.l0 k2 l0 a1 y394 (wrap64 (x7_1 + (rd l0 x8_1))) (wrap64 (x8_1 + 1))) else (none)) else (none)) = some (r1, r2) := by first | (rw [hy394]; with_reducible exact H) | (have H2_ := (Option.bind_some _ _).symm.trans H; rw [hy394]; with_reducible exact H2_) | (have H2_ := (Option.bind_some _ _).symm.trans H; with_reducible exact H2_) | with_reducible exact H | (rw [hy394]; exact H) | exact H
                   have Ny394 := Aside0.mk hy394
                   clear hy394
                   by_cases c15 : 0 ≤ x8_1
                   · rw [if_pos c15] at H
                     have c15b0 : decide (0 ≤ x8_1) = true := decide_eq_true c15
                     clear c15
                     by_cases c16 : x8_1 < (l0.length : Int)
                     · rw [if_pos c16] at H
                       have c16b0 : decide (x8_1 < (l0.length : Int)) = true := decide_eq_true c16
                       clear c16
                       have H' := Aside0.mk H
                       clear H
                       go_wp2_with (first | ((with_reducible refine gate_builtin (b := .append) (xs := #[.tmp 43, .tmp 45]) rfl ?_); at_builtin; refine Kd.R_append (Kd.int .i64) (w0 := w) w.heap.size rfl (.tmp 43) (.tmp 45) 22 3 (.int .i64 0) 8 rfl Try.underlying22 info3 rfl (by decide) (by omega) u6 x6_1 x9_2 [.int .i64 x9_2] (fun _ => True) (fun _ => False) rfl rfl ?aP (fun _ hk => hk.elim) ?aF ?aO ?aB ?aS ?aL ?_; (case aP => exact rfl); (case aB => exact (zh0 HB.out)); (case aF => exact (fun _ _ => trivial)); (case aO => exact (zr HO_6.out)); (case aS => exact (below_size (zh0 HB.out))); (case aL => have := LMc14.out; omega); intro v395 w17 ho hb hg hat; rw [← Ny394.out] at ho; replace HB := Aside0.mk (hb); have HO396 := Aside0.mk (ho); (try clear HO_6); clear ho hb hg hat; have p397 : 0 ≤ (x8_1 : Int) := zd; have q397 : x8_1 < (l0.length : Int) := zd; obtain ⟨ad397, e397, hx397_0⟩ := Kd.at_int HR0.out x8_1 p397 q397; obtain rfl : ad393 = ad397 := (by injection e397); replace hx397_0 := pw_cell_below HB.out hx397_0; replace p397 := eq_true p397; replace q397 := eq_true q397))
                       go_roundg k2
                       case measure => have := HK1.out; have := HK2.out; omega
                       case rel => exact ⟨(y394), (wrap64 (x7_1 + (rd l0 x8_1))), (wrap64 (x8_1 + 1)), (zs), (zs), H', ⟨by have := HK1.out; have := HK2.out; omega⟩, ⟨zr HO396.out⟩, ⟨zh0 HB.out⟩⟩
                     · rw [if_neg c16] at H
                       exact absurd H (by simp)
                   · rw [if_neg c15] at H
                     exact absurd H (by simp)
                 · rw [if_neg c14] at H
                   exact absurd H (by simp)
          · rw [if_neg c8] at H
            exact absurd H (by simp)
        · rw [if_neg c7] at H
          have c7b0 : decide (x8_1 < (l0.length : Int)) = false := decide_eq_false c7
          clear c7
          simp only [Option.some.injEq, Prod.mk.injEq] at H
          obtain ⟨rfl, rfl⟩ := H
          go_wp2
          go_ret2
          exact ⟨_, ze, zr HO_6.out, zh0 HB.out⟩

-- NOT PRINTED: function 14 (r9_Read)

-- NOT PRINTED: function 4 (lw_CardsRead)

end Go.Proofs.Ytgigoogekimgkaa.GCrd
