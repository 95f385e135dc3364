/- printed for this claim by gprint.py, a program of this session, that drives the kit's printer. -/
import Derived.Test.YtgigoogekimgkaaGCrdx0
import Derived.Test.YtgigoogekimgkaaZ
import Derived.Test.YtgigoogekimgkaaGCrdx5
namespace Go.Proofs.Ytgigoogekimgkaa.GCrd
open Go.RowKit Go.Proofs.YtgigoogekimgkaaW.PrintWords Go.Proofs.YtgigoogekimgkaaW.PrintLast Go.Proofs.YtgigoogekimgkaaW.PrintMore
attribute [local go_sem] max2_int min2_int max_two min_two max_three min_three max_four min_four   -- for this text's walks alone
set_option linter.unusedVariables false
set_option linter.unusedSimpArgs false

/-! ### mould_Write: function 24 -/
mutual
def mould_Write.j0 : Nat → List Int → List Int → Bool → Option (ByteArray × Int)
 | 0, _, _, _ => none
 | k + 1, x0, x1, x19 => if x19 = true then (some ((⟨#[]⟩ : ByteArray), 1)) else ((mould_Size.f k x0).bind fun t148 => (if 0 ≤ t148 then (if (t148 : Int).toNat ≤ 281474976710656 then (mould_Write.l0 k x0 (([] : List Int)) x1 (x1.length : Int) 0) else (none)) else (none)))
def mould_Write.l0 : Nat → List Int → List Int → List Int → Int → Int → Option (ByteArray × Int)
 | 0, _, _, _, _, _ => none
 | k + 1, x0, x6, x23, x24, x25 => if x25 < x24 then (if 0 ≤ x25 then (if x25 < (x23.length : Int) then (if x25 < (x0.length : Int) then (if (rd x23 x25) < 0 then (mould_Write.j2 k x0 x6 (rd x23 x25) (rd x0 x25) x23 x24 x25 true) else (if 0 ≤ (wrap64 (8 * (rd x0 x25))) then (mould_Write.j2 k x0 x6 (rd x23 x25) (rd x0 x25) x23 x24 x25 ((shr .i64 (rd x23 x25) (wrap64 (8 * (rd x0 x25)))) != 0)) else (none))) else (none)) else (none)) else (none)) else (some (strOfNums x6, 0))
def mould_Write.j2 : Nat → List Int → List Int → Int → Int → List Int → Int → Int → Bool → Option (ByteArray × Int)
 | 0, _, _, _, _, _, _, _, _ => none
 | k + 1, x0, x6, x8, x9, x23, x24, x25, x42 => if x42 = true then (some ((⟨#[]⟩ : ByteArray), 3)) else (mould_Write.l1 k x0 x6 x8 x9 x23 x24 x25)
def mould_Write.l1 : Nat → List Int → List Int → Int → Int → List Int → Int → Int → Option (ByteArray × Int)
 | 0, _, _, _, _, _, _, _ => none
 | k + 1, x0, x6, x8, x9, x23, x24, x25 => if x9 > 0 then (if x6.length < 140737488355328 then (mould_Write.l1 k x0 (x6 ++ [(x8) % 256]) (x8 / 256) (wrap64 (x9 - 1)) x23 x24 x25) else (none)) else (mould_Write.l0 k x0 x6 x23 x24 (wrap64 (x25 + 1)))
end
def mould_Write.f (k : Nat) (l0 : List Int) (l1 : List Int) : Option (ByteArray × Int) := (mould_Size.f k l0).bind fun t147 => (if t147 < 0 then (mould_Write.j0 k l0 l1 true) else (mould_Write.j0 k l0 l1 ((l0.length : Int) != (l1.length : Int))))
theorem mould_Write.mono_l : ∀ k, (∀ y0 y1 y2, LeO (mould_Write.j0 k y0 y1 y2) (mould_Write.j0 (k + 1) y0 y1 y2)) ∧ (∀ y0 y1 y2 y3 y4, LeO (mould_Write.l0 k y0 y1 y2 y3 y4) (mould_Write.l0 (k + 1) y0 y1 y2 y3 y4)) ∧ (∀ y0 y1 y2 y3 y4 y5 y6 y7, LeO (mould_Write.j2 k y0 y1 y2 y3 y4 y5 y6 y7) (mould_Write.j2 (k + 1) y0 y1 y2 y3 y4 y5 y6 y7)) ∧ (∀ y0 y1 y2 y3 y4 y5 y6, LeO (mould_Write.l1 k y0 y1 y2 y3 y4 y5 y6) (mould_Write.l1 (k + 1) y0 y1 y2 y3 y4 y5 y6))
 | 0 => ⟨fun _ _ _ r h => by simp [mould_Write.j0] at h, fun _ _ _ _ _ r h => by simp [mould_Write.l0] at h, fun _ _ _ _ _ _ _ _ r h => by simp [mould_Write.j2] at h, fun _ _ _ _ _ _ _ r h => by simp [mould_Write.l1] at h⟩
 | k + 1 => by
   obtain ⟨ih0, ih1, ih2, ih3⟩ := mould_Write.mono_l k
   refine ⟨?_, ?_, ?_, ?_⟩
   · intro y0 y1 y2
     unfold mould_Write.j0
     repeat' first
     | (with_reducible exact ih0 _ _ _)
     | (with_reducible exact ih1 _ _ _ _ _)
     | (with_reducible exact ih2 _ _ _ _ _ _ _ _)
     | (with_reducible exact ih3 _ _ _ _ _ _ _)
     | (with_reducible exact mould_Size.mono _ _)
     | (with_reducible exact LeO.refl _)
     | (with_reducible exact LeO.none _)
     | (with_reducible refine LeO.ite ?_ ?_)
     | (with_reducible refine LeO.bind ?_ (fun _ => ?_))
     | exact ih0 _ _ _
     | exact ih1 _ _ _ _ _
     | exact ih2 _ _ _ _ _ _ _ _
     | exact ih3 _ _ _ _ _ _ _
     | exact mould_Size.mono _ _
     | exact LeO.none _
     | refine LeO.ite ?_ ?_
     | refine LeO.bind ?_ (fun _ => ?_)
   · intro y0 y1 y2 y3 y4
     unfold mould_Write.l0
     repeat' first
     | (with_reducible exact ih0 _ _ _)
     | (with_reducible exact ih1 _ _ _ _ _)
     | (with_reducible exact ih2 _ _ _ _ _ _ _ _)
     | (with_reducible exact ih3 _ _ _ _ _ _ _)
     | (with_reducible exact mould_Size.mono _ _)
     | (with_reducible exact LeO.refl _)
     | (with_reducible exact LeO.none _)
     | (with_reducible refine LeO.ite ?_ ?_)
     | (with_reducible refine LeO.bind ?_ (fun _ => ?_))
     | exact ih0 _ _ _
     | exact ih1 _ _ _ _ _
     | exact ih2 _ _ _ _ _ _ _ _
     | exact ih3 _ _ _ _ _ _ _
     | exact mould_Size.mono _ _
     | exact LeO.none _
     | refine LeO.ite ?_ ?_
     | refine LeO.bind ?_ (fun _ => ?_)
   · intro y0 y1 y2 y3 y4 y5 y6 y7
     unfold mould_Write.j2
     repeat' first
     | (with_reducible exact ih0 _ _ _)
     | (with_reducible exact ih1 _ _ _ _ _)
     | (with_reducible exact ih2 _ _ _ _ _ _ _ _)
     | (with_reducible exact ih3 _ _ _ _ _ _ _)
     | (with_reducible exact mould_Size.mono _ _)
     | (with_reducible exact LeO.refl _)
     | (with_reducible exact LeO.none _)
     | (with_reducible refine LeO.ite ?_ ?_)
     | (with_reducible refine LeO.bind ?_ (fun _ => ?_))
     | exact ih0 _ _ _
     | exact ih1 _ _ _ _ _
     | exact ih2 _ _ _ _ _ _ _ _
     | exact ih3 _ _ _ _ _ _ _
     | exact mould_Size.mono _ _
     | exact LeO.none _
     | refine LeO.ite ?_ ?_
     | refine LeO.bind ?_ (fun _ => ?_)
   · intro y0 y1 y2 y3 y4 y5 y6
     unfold mould_Write.l1
     repeat' first
     | (with_reducible exact ih0 _ _ _)
     | (with_reducible exact ih1 _ _ _ _ _)
     | (with_reducible exact ih2 _ _ _ _ _ _ _ _)
     | (with_reducible exact ih3 _ _ _ _ _ _ _)
     | (with_reducible exact mould_Size.mono _ _)
     | (with_reducible exact LeO.refl _)
     | (with_reducible exact LeO.none _)
     | (with_reducible refine LeO.ite ?_ ?_)
     | (with_reducible refine LeO.bind ?_ (fun _ => ?_))
     | exact ih0 _ _ _
     | exact ih1 _ _ _ _ _
     | exact ih2 _ _ _ _ _ _ _ _
     | exact ih3 _ _ _ _ _ _ _
     | exact mould_Size.mono _ _
     | exact LeO.none _
     | refine LeO.ite ?_ ?_
     | refine LeO.bind ?_ (fun _ => ?_)
theorem mould_Write.mono : ∀ a0 a1 k, LeO (mould_Write.f k a0 a1) (mould_Write.f (k + 1) a0 a1) := by
 intro a0 a1 k
 obtain ⟨ih0, ih1, ih2, ih3⟩ := mould_Write.mono_l k
 unfold mould_Write.f
 repeat' first
  | (with_reducible exact ih0 _ _ _)
  | (with_reducible exact ih1 _ _ _ _ _)
  | (with_reducible exact ih2 _ _ _ _ _ _ _ _)
  | (with_reducible exact ih3 _ _ _ _ _ _ _)
  | (with_reducible exact mould_Size.mono _ _)
  | (with_reducible exact LeO.refl _)
  | (with_reducible exact LeO.none _)
  | (with_reducible refine LeO.ite ?_ ?_)
  | (with_reducible refine LeO.bind ?_ (fun _ => ?_))
  | exact ih0 _ _ _
  | exact ih1 _ _ _ _ _
  | exact ih2 _ _ _ _ _ _ _ _
  | exact ih3 _ _ _ _ _ _ _
  | exact mould_Size.mono _ _
  | exact LeO.none _
  | refine LeO.ite ?_ ?_
  | refine LeO.bind ?_ (fun _ => ?_)
set_option maxHeartbeats 8000000 in
set_option maxRecDepth 100000 in
theorem mould_Write.calls (k : Nat) (A0 : Option Addr) (c0 : Nat) (l0 : List Int) (A1 : Option Addr) (c1 : Nat) (l1 : List Int) (r1 : ByteArray) (r2 : Int) (w : World) (hr0 : Kd.C (Kd.int .i64) w A0 l0.length l0) (hc0 : l0.length ≤ c0) (hr1 : Kd.C (Kd.int .i64) w A1 l1.length l1) (hc1 : l1.length ≤ c1) (h : mould_Write.f k l0 l1 = some (r1, r2)) :
 Calls Try.prog 24 #[.slice A0 l0.length c0, .slice A1 l1.length c1] w fun e w' => e = .returned (.tuple #[.string r1, .int .i64 r2]) ∧ Below w.heap.size w w' := by
 have HR0 := Aside0.mk hr0
 have HC0 := Aside0.mk hc0
 clear hr0 hc0
 have HR1 := Aside0.mk hr1
 have HC1 := Aside0.mk hc1
 clear hr1 hc1
 have HB := Aside0.mk (Below.refl w.heap.size w)
 have H : ((mould_Size.f k l0).bind fun t147 => (if t147 < 0 then (mould_Write.j0 k l0 l1 true) else (mould_Write.j0 k l0 l1 ((l0.length : Int) != (l1.length : Int))))) = some (r1, r2) := h
 clear h
 have HC3 := Aside0.mk H
 clear H
 go_enter Try.func24, Try.ntmps24
 go_upto_region 1 with (fail)
 go_cut [19] (fun v19 wc => ∃ (kq : Nat) (x19_2 : Bool), v19 = .bool x19_2 ∧ Aside0 (mould_Write.j0 kq l0 l1 x19_2 = some (r1, r2)) ∧ Aside0 (kq ≤ k) ∧ Aside0 (Below w.heap.size w wc))
 case first =>
  have H := HC3.out
  clear HC3
  replace H := Option.bind_eq_some_iff.mp H
  obtain ⟨t147, A40, H⟩ := H
  replace H : (if t147 < 0 then (mould_Write.j0 k l0 l1 true) else (mould_Write.j0 k l0 l1 ((l0.length : Int) != (l1.length : Int)))) = some (r1, r2) := H
  have A4 := Aside0.mk A40
  clear A40
  by_cases c5 : t147 < 0
  · rw [if_pos c5] at H
    have c5b0 : decide (t147 < 0) = true := decide_eq_true c5
    clear c5
    (first | rw [c5b0] | (simp only [i64_w, i32_w]; rw [c5b0]) | skip)
    have H' := Aside0.mk H
    clear H
    go_wp2_with (first | ((with_reducible refine gate_callee (f := 46) rfl ?_); refine zgl (some 11) Try.func46 #[.slice A0 l0.length c0] ?_; (with_reducible refine (mould_Size.calls k _ _ l0 t147 _ ?side1 ?side2 A4.out).mono ?_); (case side1 => exact zc (Kd.C_below HR0.out HB.out)); (case side2 => exact HC0.out); rintro e w' ⟨rfl, ⟨nd, rfl⟩⟩; refine ⟨_, rfl, ?_⟩))
    go_meet
    case rel => exact ⟨_, (true), (zs), H', ⟨zl⟩, ⟨zh0 HB.out⟩⟩
  · rw [if_neg c5] at H
    have c5b0 : decide (t147 < 0) = false := decide_eq_false c5
    clear c5
    (first | rw [c5b0] | (simp only [i64_w, i32_w]; rw [c5b0]) | skip)
    have H' := Aside0.mk H
    clear H
    go_wp2_with (first | ((with_reducible refine gate_callee (f := 46) rfl ?_); refine zgl (some 11) Try.func46 #[.slice A0 l0.length c0] ?_; (with_reducible refine (mould_Size.calls k _ _ l0 t147 _ ?side1 ?side2 A4.out).mono ?_); (case side1 => exact zc (Kd.C_below HR0.out HB.out)); (case side2 => exact HC0.out); rintro e w' ⟨rfl, ⟨nd, rfl⟩⟩; refine ⟨_, rfl, ?_⟩))
    go_meet
    case rel => exact ⟨_, (((l0.length : Int) != (l1.length : Int))), (zs), H', ⟨zl⟩, ⟨zh0 HB.out⟩⟩
 case rest =>
  clear HC3; (try clear c1)
  (try clear c2); (try clear p2)
  (try clear c4); (try clear c5); (try clear c5b0)
  obtain ⟨kq, x19_2, rfl, HA, HJ2, HB⟩ := hcut
  cases kq with
  | zero => exact absurd HA.out (by simp [mould_Write.j0])
  | succ kj2 =>
    have H := HA.out
    clear HA
    simp only [mould_Write.j0] at H
    by_cases c6 : x19_2 = true
    · subst c6
      have H1 : (some ((⟨#[]⟩ : ByteArray), 1)) = some (r1, r2) := by rw [if_pos rfl] at H; exact H
      clear H
      have H := H1
      clear H1
      simp only [Option.some.injEq, Prod.mk.injEq] at H
      obtain ⟨rfl, rfl⟩ := H
      go_wp2
      go_ret2
      exact ⟨ze, zh0 HB.out⟩
    · replace c6 := Bool.eq_false_iff.mpr c6
      subst c6
      have H1 : ((mould_Size.f kj2 l0).bind fun t148 => (if 0 ≤ t148 then (if (t148 : Int).toNat ≤ 281474976710656 then (mould_Write.l0 kj2 l0 (([] : List Int)) l1 (l1.length : Int) 0) else (none)) else (none))) = some (r1, r2) := by rw [if_neg (show ¬ (false = true) by decide)] at H; exact H
      clear H
      have H := H1
      clear H1
      replace H := Option.bind_eq_some_iff.mp H
      obtain ⟨t148, A70, H⟩ := H
      replace H : (if 0 ≤ t148 then (if (t148 : Int).toNat ≤ 281474976710656 then (mould_Write.l0 kj2 l0 (([] : List Int)) l1 (l1.length : Int) 0) else (none)) else (none)) = some (r1, r2) := H
      have A7 := Aside0.mk A70
      clear A70
      by_cases c8 : 0 ≤ t148
      · rw [if_pos c8] at H
        have c8b0 := eq_true c8
        have c8b1 : decide (0 ≤ t148) = true := decide_eq_true c8
        clear c8
        by_cases c9 : (t148 : Int).toNat ≤ 281474976710656
        · rw [if_pos c9] at H
          have c9b0 := eq_true c9
          have c9b1 : decide ((t148 : Int).toNat ≤ 281474976710656) = true := decide_eq_true c9
          clear c9
          obtain ⟨y149, hy149⟩ : ∃ y_ : List Int, y_ = (([] : List Int)) := ⟨_, rfl⟩
          replace H : (mould_Write.l0 kj2 l0 y149 l1 (l1.length : Int) 0) = some (r1, r2) := by first | (rw [hy149]; with_reducible exact H) | (have H2_ := (Option.bind_some _ _).symm.trans H; rw [hy149]; with_reducible exact H2_) | (have H2_ := (Option.bind_some _ _).symm.trans H; with_reducible exact H2_) | with_reducible exact H | (rw [hy149]; exact H) | exact H
          have Ny149 := Aside0.mk hy149
          clear hy149
          have H' := Aside0.mk H
          clear H
          go_wp2_with (first | ((with_reducible refine gate_callee (f := 46) rfl ?_); refine zgl (some 21) Try.func46 #[.slice A0 l0.length c0] ?_; (with_reducible refine (mould_Size.calls kj2 _ _ l0 t148 _ ?side1 ?side2 A7.out).mono ?_); (case side1 => exact zc (Kd.C_below HR0.out HB.out)); (case side2 => exact HC0.out); rintro e w' ⟨rfl, ⟨nd, rfl⟩⟩; refine ⟨_, rfl, ?_⟩) | ((with_reducible refine gate_dst (N := 22) rfl ?_); (try (refine gate_guard (by rfl) ?_; dsimp only)); refine Kd.R_makecap (Kd.int .u8) _ 5 rfl (N := 22) rfl 62 _ _ rfl t148 rfl rfl Try.underlying62 (.int .u8 0) 1 info5 rfl (by decide) (by omega) 0 (ok := fun _ => True) (okp := fun _ => True) rfl (fun _ hk => hk) trivial (zd) (Nat.le_trans (Nat.mul_le_mul_right _ (zd : t148.toNat ≤ 281474976710656)) (by omega)) (Below.refl _ _) (Nat.le_refl _) ?_; intro v150 w10 ho11 hb hg_ hnew_; clear hg_ hnew_; (first | rw [← Ny149.out] at ho11 | (simp only [Int.reduceToNat] at ho11; rw [← Ny149.out] at ho11)); have HO151 := Aside0.mk (Kd.R_lower ho11 (below_size (zh0 HB.out))); replace HB := Aside0.mk (below_step (zh0 HB.out) hb); clear hb ho11))
          go_loopg [6, 25] kj2 (fun kq v6 v25 w' => ∃ (x6_2 : List Int) (x25_2 : Int), v25 = .int .i64 x25_2 ∧ Aside0 (mould_Write.l0 kq l0 x6_2 l1 (l1.length : Int) x25_2 = some (r1, r2)) ∧ Aside0 (kq ≤ kj2) ∧ Aside0 (Kd.R (Kd.int .u8) 5 w' w.heap.size (fun _ => True) v6 x6_2) ∧ Aside0 (Below w.heap.size w w'))
          case atStart => exact ⟨(y149), (0), (zs), H', ⟨Nat.le_refl _⟩, ⟨zr HO151.out⟩, ⟨zh0 HB.out⟩⟩
          case round =>
           clear H'
           (try clear c1); (try clear c2)
           (try clear p2); (try clear c4)
           (try clear c5); (try clear c5b0)
           (try clear c6); (try clear c8)
           (try clear c8b0); (try clear c8b1)
           (try clear c9); (try clear c9b0)
           (try clear c9b1); (try clear p2)
           obtain ⟨x6_2, x25_2, rfl, HA, HK2, HO_6, HB⟩ := hrel
           cases gk with
           | zero => exact absurd HA.out (by simp [mould_Write.l0])
           | succ k2 =>
             have H := HA.out
             clear HA
             simp only [mould_Write.l0] at H
             by_cases c12 : x25_2 < (l1.length : Int)
             · rw [if_pos c12] at H
               have c12b0 : decide (x25_2 < (l1.length : Int)) = true := decide_eq_true c12
               clear c12
               by_cases c13 : 0 ≤ x25_2
               · rw [if_pos c13] at H
                 have c13b0 : decide (0 ≤ x25_2) = true := decide_eq_true c13
                 clear c13
                 by_cases c14 : x25_2 < (l1.length : Int)
                 · rw [if_pos c14] at H
                   have c14b0 : decide (x25_2 < (l1.length : Int)) = true := decide_eq_true c14
                   clear c14
                   by_cases c15 : x25_2 < (l0.length : Int)
                   · rw [if_pos c15] at H
                     have c15b0 : decide (x25_2 < (l0.length : Int)) = true := decide_eq_true c15
                     clear c15
                     have HC16 := Aside0.mk H
                     clear H
                     have p152 : 0 ≤ (x25_2 : Int) := zd
                     have q152 : x25_2 < (l1.length : Int) := zd
                     obtain ⟨ad152, e152, hx152_0⟩ := Kd.at_int HR1.out x25_2 p152 q152
                     cases e152
                     replace hx152_0 := pw_cell_below HB.out hx152_0
                     replace p152 := eq_true p152
                     replace q152 := eq_true q152
                     have p153 : 0 ≤ (x25_2 : Int) := zd
                     have q153 : x25_2 < (l0.length : Int) := zd
                     obtain ⟨ad153, e153, hx153_0⟩ := Kd.at_int HR0.out x25_2 p153 q153
                     cases e153
                     replace hx153_0 := pw_cell_below HB.out hx153_0
                     replace p153 := eq_true p153
                     replace q153 := eq_true q153
                     go_upto_region 8 with (fail)
                     go_cut [42] (fun v42 wc => ∃ (kq : Nat) (x42_15 : Bool), v42 = .bool x42_15 ∧ Aside0 (mould_Write.j2 kq l0 x6_2 (rd l1 x25_2) (rd l0 x25_2) l1 (l1.length : Int) x25_2 x42_15 = some (r1, r2)) ∧ Aside0 (kq ≤ k2) ∧ Aside0 (Kd.R (Kd.int .u8) 5 wc w.heap.size (fun _ => True) u6 x6_2) ∧ Aside0 (Below w.heap.size w wc))
                     case first =>
                      have H := HC16.out
                      clear HC16
                      by_cases c17 : (rd l1 x25_2) < 0
                      · rw [if_pos c17] at H
                        have c17b0 : decide ((rd l1 x25_2) < 0) = true := decide_eq_true c17
                        clear c17
                        (first | rw [c17b0] | (simp only [i64_w, i32_w]; rw [c17b0]) | skip)
                        have H' := Aside0.mk H
                        clear H
                        go_wp2
                        go_meet
                        case rel => exact ⟨_, (true), (zs), H', ⟨by have := HJ2.out; have := HK2.out; first | omega | exact Nat.le_refl _⟩, ⟨zr HO_6.out⟩, ⟨zh0 HB.out⟩⟩
                      · rw [if_neg c17] at H
                        have c17b0 : decide ((rd l1 x25_2) < 0) = false := decide_eq_false c17
                        clear c17
                        (first | rw [c17b0] | (simp only [i64_w, i32_w]; rw [c17b0]) | skip)
                        obtain ⟨ji18, hji18⟩ : ∃ j_ : Int, (wrap64 (8 * (rd l0 x25_2))) = j_ := ⟨_, rfl⟩
                        replace H : (if 0 ≤ (ji18) then (mould_Write.j2 k2 l0 x6_2 (rd l1 x25_2) (rd l0 x25_2) l1 (l1.length : Int) x25_2 ((shr .i64 (rd l1 x25_2) (ji18)) != 0)) else (none)) = some (r1, r2) := by first | (rw [hji18] at H; exact H) | (simp only [hji18] at H ⊢; exact H)
                        have hji18w : (IntKind.i64.wrap (8 * (rd l0 x25_2))) = ji18 := (i64_w _).trans hji18
                        by_cases c19 : 0 ≤ (ji18)
                        · rw [if_pos c19] at H
                          have c19b0 := eq_true c19
                          have c19b1 : decide (0 ≤ (ji18)) = true := decide_eq_true c19
                          clear c19
                          obtain ⟨ji20, hji20⟩ : ∃ j_ : Int, (shr .i64 (rd l1 x25_2) (ji18)) = j_ := ⟨_, rfl⟩
                          replace H : (mould_Write.j2 k2 l0 x6_2 (rd l1 x25_2) (rd l0 x25_2) l1 (l1.length : Int) x25_2 ((ji20) != 0)) = some (r1, r2) := by first | (rw [hji20] at H; exact H) | (simp only [hji20] at H ⊢; exact H)
                          have hji20_ : ((rd l1 x25_2) / 2 ^ min (ji18).toNat 64) = ji20 := hji20
                          have hji20z : (ji18) ≤ 64 → ((rd l1 x25_2) / 2 ^ (ji18).toNat) = ji20 := shr_small hji20
                          have H' := Aside0.mk H
                          clear H
                          go_wp2
                          go_meet
                          case rel => exact ⟨_, (((ji20) != 0)), (by first | rfl | (simp; done) | (simp only [← hji20] <;> (first | rfl | simp)) | (simp [*]; done)), H', ⟨by have := HJ2.out; have := HK2.out; first | omega | exact Nat.le_refl _⟩, ⟨zr HO_6.out⟩, ⟨zh0 HB.out⟩⟩
                        · rw [if_neg c19] at H
                          exact absurd H (by simp)
                     case rest =>
                      clear HC16; (try clear c1)
                      (try clear p1); (try clear q1)
                      (try clear hx1); (try clear c2)
                      (try clear p2); (try clear c4)
                      (try clear c5); (try clear c5b0)
                      (try clear c6); (try clear p6)
                      (try clear c8); (try clear c8b0)
                      (try clear c8b1); (try clear c9)
                      (try clear c9b0); (try clear c9b1)
                      (try clear c12); (try clear c12b0)
                      (try clear c13); (try clear c13b0)
                      (try clear c14); (try clear c14b0)
                      (try clear c15); (try clear c15b0)
                      (try clear p15); (try clear q15)
                      (try clear hx15); (try clear c17)
                      (try clear c17b0); (try clear c19)
                      (try clear c19b0); (try clear c19b1)
                      (try clear hx152_0); (try clear hx153_0)
                      (try clear p152); (try clear p153)
                      (try clear p2); (try clear q152); (try clear q153)
                      obtain ⟨kq, x42_15, rfl, HA, HJ15, HO_6, HB⟩ := hcut
                      cases kq with
                      | zero => exact absurd HA.out (by simp [mould_Write.j2])
                      | succ kj15 =>
                        have H := HA.out
                        clear HA
                        simp only [mould_Write.j2] at H
                        by_cases c21 : x42_15 = true
                        · subst c21
                          have H1 : (some ((⟨#[]⟩ : ByteArray), 3)) = some (r1, r2) := by rw [if_pos rfl] at H; exact H
                          clear H
                          have H := H1
                          clear H1
                          simp only [Option.some.injEq, Prod.mk.injEq] at H
                          obtain ⟨rfl, rfl⟩ := H
                          go_wp2
                          go_ret2
                          exact ⟨ze, zh0 HB.out⟩
                        · replace c21 := Bool.eq_false_iff.mpr c21
                          subst c21
                          have H1 : (mould_Write.l1 kj15 l0 x6_2 (rd l1 x25_2) (rd l0 x25_2) l1 (l1.length : Int) x25_2) = some (r1, r2) := by rw [if_neg (show ¬ (false = true) by decide)] at H; exact H
                          clear H
                          have H := H1
                          clear H1
                          have H' := Aside0.mk H
                          clear H
                          go_wp2
                          go_loopg [6, 8, 9] kj15 (fun kq v6 v8 v9 w' => ∃ (x6_4 : List Int) (x8_4 : Int) (x9_4 : Int), v8 = .int .i64 x8_4 ∧ v9 = .int .i64 x9_4 ∧ Aside0 (mould_Write.l1 kq l0 x6_4 x8_4 x9_4 l1 (l1.length : Int) x25_2 = some (r1, r2)) ∧ Aside0 (kq ≤ kj15) ∧ Aside0 (Kd.R (Kd.int .u8) 5 w' w.heap.size (fun _ => True) v6 x6_4) ∧ Aside0 (Below w.heap.size w w'))
                          case atStart => exact ⟨(x6_2), ((rd l1 x25_2)), ((rd l0 x25_2)), (zs), (zs), H', ⟨Nat.le_refl _⟩, ⟨zr HO_6.out⟩, ⟨zh0 HB.out⟩⟩
                          case round =>
                           clear H'
                           (try clear c1); (try clear p1)
                           (try clear q1); (try clear hx1)
                           (try clear c2); (try clear p2)
                           (try clear c4); (try clear c5)
                           (try clear c5b0); (try clear c6)
                           (try clear p6); (try clear c8)
                           (try clear c8b0); (try clear c8b1)
                           (try clear c9); (try clear c9b0)
                           (try clear c9b1); (try clear c12)
                           (try clear c12b0); (try clear c13)
                           (try clear c13b0); (try clear c14)
                           (try clear c14b0); (try clear c15)
                           (try clear c15b0); (try clear p15)
                           (try clear q15); (try clear hx15)
                           (try clear c17); (try clear c17b0)
                           (try clear c19); (try clear c19b0)
                           (try clear c19b1); (try clear c21)
                           (try clear hx152_0); (try clear hx153_0)
                           (try clear p1); (try clear p15)
                           (try clear p152); (try clear p153)
                           (try clear p2); (try clear p6)
                           (try clear q1); (try clear q15)
                           (try clear q152); (try clear q153)
                           obtain ⟨x6_4, x8_4, x9_4, rfl, rfl, HA, HK4, HO_6, HB⟩ := hrel
                           cases gk with
                           | zero => exact absurd HA.out (by simp [mould_Write.l1])
                           | succ k4 =>
                             have H := HA.out
                             clear HA
                             simp only [mould_Write.l1] at H
                             by_cases c22 : x9_4 > 0
                             · rw [if_pos c22] at H
                               have c22b0 : decide (0 < x9_4) = true := decide_eq_true c22
                               clear c22
                               by_cases c23 : x6_4.length < 140737488355328
                               · rw [if_pos c23] at H
                                 have LMc23 := Aside0.mk c23
                                 clear c23
                                 obtain ⟨y154, hy154⟩ : ∃ y_ : List Int, y_ = (x6_4 ++ [(x8_4) % 256]) := ⟨_, rfl⟩
                                 replace H : (mould_Write.l1 k4 l0 y154 (x8_4 / 256) (wrap64 (x9_4 - 1)) l1 (l1.length : Int) x25_2) = some (r1, r2) := by first | (rw [hy154]; with_reducible exact H) | (have H2_ := (Option.bind_some _ _).symm.trans H; rw [hy154]; with_reducible exact H2_) | (have H2_ := (Option.bind_some _ _).symm.trans H; with_reducible exact H2_) | with_reducible exact H | (rw [hy154]; exact H) | exact H
                                 have Ny154 := Aside0.mk hy154
                                 clear hy154
                                 have H' := Aside0.mk H
                                 clear H
                                 go_wp2_with (first | ((with_reducible refine gate_builtin (b := .append) (xs := #[.tmp 47, .tmp 50]) rfl ?_); (try (refine gate_guard (by rfl) ?_; dsimp only)); at_builtin; refine Kd.R_append (Kd.int .u8) (w0 := w) w.heap.size rfl (.tmp 47) (.tmp 50) 62 5 (.int .u8 0) 1 rfl Try.underlying62 info5 rfl (by decide) (by omega) u6 x6_4 ((x8_4) % 256) [.int .u8 ((x8_4) % 256)] (fun _ => True) (fun _ => False) rfl rfl ?aP (fun _ hk => hk.elim) ?aF ?aO ?aB ?aS ?aL ?_; (case aP => exact rfl); (case aB => exact (zh0 HB.out)); (case aF => exact (fun _ _ => trivial)); (case aO => exact (zr HO_6.out)); (case aS => exact (below_size (zh0 HB.out))); (case aL => have := LMc23.out; omega); intro v155 w24 ho hb hg hat; rw [← Ny154.out] at ho; replace HB := Aside0.mk (hb); have HO156 := Aside0.mk (ho); (try clear HO_6); clear ho hb hg hat))
                                 go_roundg k4
                                 case measure => have := HJ2.out; have := HK2.out; have := HJ15.out; have := HK4.out; omega
                                 case rel => exact ⟨(y154), (x8_4 / 256), (wrap64 (x9_4 - 1)), (zs), (zs), H', ⟨by have := HJ2.out; have := HK2.out; have := HJ15.out; have := HK4.out; omega⟩, ⟨zr HO156.out⟩, ⟨zh0 HB.out⟩⟩
                               · rw [if_neg c23] at H
                                 exact absurd H (by simp)
                             · rw [if_neg c22] at H
                               have c22b0 : decide (0 < x9_4) = false := decide_eq_false c22
                               clear c22
                               have H' := Aside0.mk H
                               clear H
                               go_wp2
                               go_roundg k4
                               case measure => have := HJ2.out; have := HK2.out; have := HJ15.out; have := HK4.out; omega
                               case rel => exact ⟨(x6_4), (wrap64 (x25_2 + 1)), (zs), H', ⟨by have := HJ2.out; have := HK2.out; have := HJ15.out; have := HK4.out; omega⟩, ⟨zr HO_6.out⟩, ⟨zh0 HB.out⟩⟩
                   · rw [if_neg c15] at H
                     exact absurd H (by simp)
                 · rw [if_neg c14] at H
                   exact absurd H (by simp)
               · rw [if_neg c13] at H
                 exact absurd H (by simp)
             · rw [if_neg c12] at H
               have c12b0 : decide (x25_2 < (l1.length : Int)) = false := decide_eq_false c12
               clear c12
               simp only [Option.some.injEq, Prod.mk.injEq] at H
               obtain ⟨rfl, rfl⟩ := H
               have hcv25 := own_string (P := Try.prog) Try.underlying62 Try.underlying5 Try.underlying9 (Kd.own_of_R HO_6.out)
               go_wp2
               go_ret2
               exact ⟨ze, zh0 HB.out⟩
        · rw [if_neg c9] at H
          exact absurd H (by simp)
      · rw [if_neg c8] at H
        exact absurd H (by simp)

/-! ### bits_Mul32: function 64 -/
def bits_Mul32.f (a0 : Int) (a1 : Int) : Option (Int × Int) := some (((IntKind.u64.wrap ((IntKind.u64.wrap (a0)) * (IntKind.u64.wrap (a1)))) / 4294967296) % 4294967296, (IntKind.u64.wrap ((IntKind.u64.wrap (a0)) * (IntKind.u64.wrap (a1)))) % 4294967296)
set_option maxHeartbeats 8000000 in
set_option maxRecDepth 100000 in
theorem bits_Mul32.calls (a0 : Int) (a1 : Int) (r1 : Int) (r2 : Int) (w : World) (h : bits_Mul32.f a0 a1 = some (r1, r2)) :
 Calls Try.prog 64 #[.int .u32 a0, .int .u32 a1] w fun e w' => e = .returned (.tuple #[.int .u32 r1, .int .u32 r2]) ∧ Drawn0 w w' := by
 have H : (some (((IntKind.u64.wrap ((IntKind.u64.wrap (a0)) * (IntKind.u64.wrap (a1)))) / 4294967296) % 4294967296, (IntKind.u64.wrap ((IntKind.u64.wrap (a0)) * (IntKind.u64.wrap (a1)))) % 4294967296)) = some (r1, r2) := h
 clear h
 simp only [Option.some.injEq, Prod.mk.injEq] at H
 obtain ⟨rfl, rfl⟩ := H
 go_enter Try.func64, Try.ntmps64
 go_wp2
 go_ret2
 exact ⟨by first | rfl | (simp; done) | (simp [*]; done), by repeat (first | exact Drawn0.refl _ | apply Drawn0.step)⟩

/-! ### bits_Mul64: function 65 -/
def bits_Mul64.f (a0 : Int) (a1 : Int) : Option (Int × Int) := some (IntKind.u64.wrap ((IntKind.u64.wrap ((IntKind.u64.wrap ((a0 / 4294967296) * (a1 / 4294967296))) + ((IntKind.u64.wrap ((IntKind.u64.wrap ((a0 / 4294967296) * (Go.bits .and .u64 a1 4294967295))) + ((IntKind.u64.wrap ((Go.bits .and .u64 a0 4294967295) * (Go.bits .and .u64 a1 4294967295))) / 4294967296))) / 4294967296))) + ((IntKind.u64.wrap ((Go.bits .and .u64 (IntKind.u64.wrap ((IntKind.u64.wrap ((a0 / 4294967296) * (Go.bits .and .u64 a1 4294967295))) + ((IntKind.u64.wrap ((Go.bits .and .u64 a0 4294967295) * (Go.bits .and .u64 a1 4294967295))) / 4294967296))) 4294967295) + (IntKind.u64.wrap ((Go.bits .and .u64 a0 4294967295) * (a1 / 4294967296))))) / 4294967296)), IntKind.u64.wrap (a0 * a1))
set_option maxHeartbeats 8000000 in
set_option maxRecDepth 100000 in
theorem bits_Mul64.calls (a0 : Int) (a1 : Int) (r1 : Int) (r2 : Int) (w : World) (h : bits_Mul64.f a0 a1 = some (r1, r2)) :
 Calls Try.prog 65 #[.int .u64 a0, .int .u64 a1] w fun e w' => e = .returned (.tuple #[.int .u64 r1, .int .u64 r2]) ∧ Drawn0 w w' := by
 have H : (some (IntKind.u64.wrap ((IntKind.u64.wrap ((IntKind.u64.wrap ((a0 / 4294967296) * (a1 / 4294967296))) + ((IntKind.u64.wrap ((IntKind.u64.wrap ((a0 / 4294967296) * (Go.bits .and .u64 a1 4294967295))) + ((IntKind.u64.wrap ((Go.bits .and .u64 a0 4294967295) * (Go.bits .and .u64 a1 4294967295))) / 4294967296))) / 4294967296))) + ((IntKind.u64.wrap ((Go.bits .and .u64 (IntKind.u64.wrap ((IntKind.u64.wrap ((a0 / 4294967296) * (Go.bits .and .u64 a1 4294967295))) + ((IntKind.u64.wrap ((Go.bits .and .u64 a0 4294967295) * (Go.bits .and .u64 a1 4294967295))) / 4294967296))) 4294967295) + (IntKind.u64.wrap ((Go.bits .and .u64 a0 4294967295) * (a1 / 4294967296))))) / 4294967296)), IntKind.u64.wrap (a0 * a1))) = some (r1, r2) := h
 clear h
 simp only [Option.some.injEq, Prod.mk.injEq] at H
 obtain ⟨rfl, rfl⟩ := H
 go_enter Try.func65, Try.ntmps65
 go_wp2
 go_ret2
 exact ⟨by first | rfl | (simp; done) | (simp [*]; done), by repeat (first | exact Drawn0.refl _ | apply Drawn0.step)⟩

/-! ### bits_Mul: function 56 -/
def bits_Mul.f (a0 : Int) (a1 : Int) : Option (Int × Int) := (bits_Mul64.f a0 a1).bind fun bt157 => (some (bt157.1, bt157.2))
set_option maxHeartbeats 8000000 in
set_option maxRecDepth 100000 in
theorem bits_Mul.calls (a0 : Int) (a1 : Int) (r1 : Int) (r2 : Int) (w : World) (h : bits_Mul.f a0 a1 = some (r1, r2)) :
 Calls Try.prog 56 #[.int .u64 a0, .int .u64 a1] w fun e w' => e = .returned (.tuple #[.int .u64 r1, .int .u64 r2]) ∧ Drawn0 w w' := by
 have H : ((bits_Mul64.f a0 a1).bind fun bt157 => (some (bt157.1, bt157.2))) = some (r1, r2) := h
 clear h
 replace H := Option.bind_eq_some_iff.mp H
 obtain ⟨⟨t157, t158⟩, A30, H⟩ := H
 replace H : (some (t157, t158)) = some (r1, r2) := H
 have A3 := Aside0.mk A30
 clear A30
 simp only [Option.some.injEq, Prod.mk.injEq] at H
 obtain ⟨rfl, rfl⟩ := H
 go_enter Try.func56, Try.ntmps56
 go_wp2_with (first | ((with_reducible refine gate_callee (f := 65) rfl ?_); refine zgl (some 25) Try.func65 #[.int .u64 a0, .int .u64 a1] ?_; (with_reducible refine (bits_Mul64.calls a0 a1 t157 t158 _ A3.out).mono ?_); rintro e w' ⟨rfl, ⟨nd, rfl⟩⟩; refine ⟨_, rfl, ?_⟩))
 go_ret2
 exact ⟨by first | rfl | (simp; done) | (simp [*]; done), by repeat (first | exact Drawn0.refl _ | apply Drawn0.step)⟩

/-! ### sl_Rp: function 47 -/
def sl_Rp.f (l0 : List Int) (a1 : Int) : Option (List Int) := if l0 = [2] then (if 1 ≤ a1 then (if a1 ≤ 64 then (some (List.replicate a1.toNat 2)) else (none)) else (none)) else (none)
theorem sl_Rp.row (m n N : Nat) (hn : n + m ≤ N) : ((List.replicate n (Value.int .i64 2) ++ List.replicate (N - n) (Value.int .i64 0)).take n ++ List.replicate m (Value.int .i64 2) ++ (List.replicate n (Value.int .i64 2) ++ List.replicate (N - n) (Value.int .i64 0)).drop (n + m)) = List.replicate (n + m) (Value.int .i64 2) ++ List.replicate (N - (n + m)) (Value.int .i64 0) := by
 rw [List.take_left' (by simp), List.drop_append, List.drop_of_length_le (by simp), List.nil_append, List.length_replicate, List.drop_replicate, List.replicate_append_replicate, show n + m - n = m by omega, show N - n - m = N - (n + m) by omega]
set_option maxHeartbeats 8000000 in
set_option maxRecDepth 100000 in
theorem sl_Rp.two (N : Nat) (hN : 1 ≤ N) (hN2 : N ≤ 64) (ad : Addr) (c0 : Nat) (w : World) (hx : w.cell? (ad.add 0) = some (.int .i64 2)) (hc0 : 1 ≤ c0) :
 Calls Try.prog 47 #[.slice (some ad) 1 c0, .int .i64 (N : Int)] w fun e w' => ∃ v0_ : Value, e = .returned (v0_) ∧ Kd.R (Kd.int .i64) 3 w' w.heap.size (fun _ => True) v0_ (List.replicate N 2) ∧ Below w.heap.size w w' := by
 have cM : ∀ W : World, Calls Try.prog 56 #[.int .u64 1, .int .u64 (N : Int)] W fun e w' => e = .returned (.tuple #[.int .u64 0, .int .u64 (N : Int)]) ∧ w' = W := fun W => by
  have h := Go.Proofs.Try.bits_Mul 1 N (by decide) (by omega) W
  rw [Nat.one_mul, Nat.div_eq_of_lt (by omega), Nat.mod_eq_of_lt (by omega)] at h
  exact h
 have hneg : decide ((N : Int) < 0) = false := decide_eq_false (by omega)
 have hbig : decide (9223372036854775807 < (N : Int)) = false := decide_eq_false (by omega)
 have hmk := run_make_row' (P := Try.prog) 22 3 (.int .i64 0) 8 Try.underlying22 info3 rfl .i64 .i64 N (by omega) (by omega) w
 have hs1 : (Try.prog.info? 3).map (·.size) = some 1 := by
  have h := info3
  cases hh : Try.prog.info? 3 with
  | none => rw [hh] at h; cases h
  | some i => rw [hh] at h; simp at h ⊢; exact h.2.1
 obtain ⟨W0, hW0⟩ : ∃ W0, w.alloc (.cells (madeCells #[.int .i64 0] N) 3) = W0 := ⟨_, rfl⟩
 rw [hW0] at hmk
 have hg0 : W0.heap[w.heap.size]? = some (.cells (madeCells #[.int .i64 0] N) 3 (0, 0)) := by rw [← hW0]; exact blk_new _ _
 have hB0 : Below w.heap.size w W0 := by rw [← hW0]; exact (Below.refl _ w).alloc (Nat.le_refl _) _
 have hcp := run_copy_row (P := Try.prog) W0 22 22 3 3 w.heap.size 0 N N ad 1 c0 _ _ [.int .i64 2] Try.underlying22 hs1 hg0 (by rw [show Nat.min 1 N = 1 from Nat.min_eq_left hN]; rfl) (fun j v hj => by
  cases j with
  | zero => simp at hj; subst hj; rw [hB0.cell (World.block_lt_of_cell? w _ hx)]; exact hx
  | succ j => simp at hj) (by simp [madeCells]; omega) (by simp [Value.oneCell'])
 have hrow : (List.take 0 (madeCells #[.int .i64 0] N).toList ++ [.int .i64 2] ++ List.drop (0 + [Value.int .i64 2].length) (madeCells #[.int .i64 0] N).toList) = List.replicate 1 (Value.int .i64 2) ++ List.replicate (N - 1) (Value.int .i64 0) := by
  obtain ⟨k, rfl⟩ : ∃ k, N = k + 1 := ⟨N - 1, by omega⟩
  have e : (madeCells #[.int .i64 0] (k + 1)).toList = List.replicate (k + 1) (Value.int .i64 0) := by
   apply List.ext_getElem
   · simp [madeCells]
   · intro i h1 h2
     simp [madeCells, Nat.mod_one]
  rw [e, List.take_zero, List.nil_append, show 0 + [Value.int .i64 2].length = 1 from rfl, List.drop_replicate]
  rfl
 rw [hrow] at hcp
 obtain ⟨W1, hW1⟩ : ∃ W1, W0.setRow w.heap.size (List.replicate 1 (Value.int .i64 2) ++ List.replicate (N - 1) (Value.int .i64 0)).toArray = W1 := ⟨_, rfl⟩
 rw [hW1] at hcp
 have hg1 : W1.heap[w.heap.size]? = some (.cells (List.replicate 1 (Value.int .i64 2) ++ List.replicate (N - 1) (Value.int .i64 0)).toArray 3 (0, 0)) := by
  rw [← hW1]; exact setRow_heap _ _ _ _ _ _ hg0
 clear hrow
 go_enter Try.func47, Try.ntmps47
 go_wp2_with (go_at_call 56; (with_reducible refine (cM _).mono ?_); rintro e w' ⟨rfl, hw'⟩; rw [hw']; clear hw')
 have hB1 : Below w.heap.size w W1 := by rw [← hW1]; exact below_setRow hB0 (Nat.le_refl _) _
 clear hcp hmk hW0 hW1 hg0 hB0 cM hneg hbig
 go_loopg [8] N (fun g v8 wx => ∃ n : Nat, 1 ≤ n ∧ n ≤ N ∧ N ≤ n + g ∧ v8 = .int .i64 (n : Int) ∧ wx.heap[w.heap.size]? = some (.cells (List.replicate n (Value.int .i64 2) ++ List.replicate (N - n) (Value.int .i64 0)).toArray 3 (0, 0)) ∧ Below w.heap.size w wx)
 case atStart => exact ⟨1, by omega, hN, by omega, rfl, hg1, hB1⟩
 case round =>
  obtain ⟨n, h1, h2, h3, rfl, hg, hb⟩ := hrel
  by_cases hlt : n < N
  · have hltI : decide ((n : Int) < (N : Int)) = true := decide_eq_true (by omega)
    have hone : ∀ v ∈ List.replicate (min n (N - n)) (Value.int .i64 2), v.oneCell' = true := fun v hv => by rw [(List.mem_replicate.1 hv).2]; rfl
    have hsrc : ∀ j v, (List.replicate (min n (N - n)) (Value.int .i64 2))[j]? = some v → wr.cell? ((⟨w.heap.size, 0, none⟩ : Addr).add j) = some v := fun j v hj => by
     obtain ⟨hj1, hj2⟩ := List.getElem?_eq_some_iff.1 hj
     rw [List.length_replicate] at hj1
     rw [List.getElem_replicate] at hj2
     subst hj2
     have ha : ((⟨w.heap.size, 0, none⟩ : Addr).add j) = ⟨w.heap.size, j, none⟩ := by simp [Addr.add] <;> omega
     have hjn : j < n := by omega
     rw [ha, blk_cell hg j, List.getElem?_toArray, List.getElem?_append_left (by rw [List.length_replicate]; exact hjn), List.getElem?_replicate, if_pos hjn]
    have HS := Aside0.mk hsrc
    have HG := Aside0.mk hg
    clear hsrc hg
    go_wp2
    go_region_law (refine step_copy_splice rfl (.tmp 41) (.tmp 44) 22 22 rfl 3 Try.underlying22 hs1 (some ⟨w.heap.size, n, none⟩) (some ⟨w.heap.size, 0, none⟩) (N - n) (N - n) n N (by simp [Act.eval, Act.put, show ¬ N = n by omega]) (by simp [Act.eval, Act.put]) w.heap.size n _ 3 HG.out (List.replicate (min n (N - n)) (.int .i64 2)) (by rw [List.length_replicate]) (fun _ => ⟨rfl, _, rfl, HS.out⟩) (by simp <;> omega) hone w.heap.size w (Below.drew hb) (Nat.le_refl _) ?_; intro w2 hg2 hb2; clear HG HS)
    have hnew : splice (List.replicate n (Value.int .i64 2) ++ List.replicate (N - n) (Value.int .i64 0)) n (List.replicate (min n (N - n)) (.int .i64 2)) = List.replicate (n + min n (N - n)) (Value.int .i64 2) ++ List.replicate (N - (n + min n (N - n))) (Value.int .i64 0) := by
     unfold splice
     rw [List.length_replicate, ← List.append_assoc]
     exact sl_Rp.row _ _ _ (by omega)
    rw [hnew] at hg2
    obtain ⟨k1, rfl⟩ : ∃ k1, gk = k1 + 1 := ⟨gk - 1, by omega⟩
    all_goals (
     go_wp2
     go_roundg k1)
    case measure => omega
    case rel => exact ⟨n + min n (N - n), by omega, by omega, by omega, by rw [i64_w]; congr 1; simp only [wrap64]; omega, hg2, hb2⟩
  · have hltI : decide ((n : Int) < (N : Int)) = false := decide_eq_false (by omega)
    obtain rfl : n = N := by omega
    rw [Nat.sub_self, List.replicate_zero, List.append_nil] at hg
    go_wp2
    go_ret
    refine ⟨.slice (some ⟨w.heap.size, 0, none⟩) n n, rfl, ⟨fun _ _ => trivial, List.replicate n (Value.int .i64 2), ⟨by simp [Kd.int, Kd.scalar], .inr ⟨w.heap.size, n, _, by rw [List.length_replicate], Nat.le_refl _, hg, by rw [List.length_replicate]; exact Nat.le_refl _, by unfold maxLen; omega, by simp [Kd.int, Kd.scalar], by simp [Kd.int, Kd.scalar]⟩⟩, ⟨by simp [Kd.int, Kd.scalar], ?_⟩⟩, hb⟩
    intro j p hj
    obtain ⟨hj1, rfl⟩ := List.getElem?_eq_some_iff.1 hj
    rw [List.length_replicate] at hj1
    show ((List.replicate n (Value.int .i64 2)).drop (j * 1)).take 1 = _
    rw [Nat.mul_one, List.drop_replicate, List.take_replicate, List.getElem_replicate, show min 1 (n - j) = 1 by omega]
    rfl
theorem sl_Rp.calls (A0 : Option Addr) (c0 : Nat) (l0 : List Int) (a1 : Int) (r : List Int) (w : World) (hr0 : Kd.C (Kd.int .i64) w A0 l0.length l0) (hc0 : l0.length ≤ c0) (h : sl_Rp.f l0 a1 = some r) :
 Calls Try.prog 47 #[.slice A0 l0.length c0, .int .i64 a1] w fun e w' => ∃ v0_ : Value, e = .returned (v0_) ∧ Kd.R (Kd.int .i64) 3 w' w.heap.size (fun _ => True) v0_ r ∧ Below w.heap.size w w' := by
 unfold sl_Rp.f at h
 split at h
 · rename_i h1
   split at h
   · rename_i h2
     split at h
     · rename_i h3
       obtain rfl := Option.some.inj h
       subst h1
       obtain ⟨N, rfl⟩ := Int.eq_ofNat_of_zero_le (show 0 ≤ a1 by omega)
       obtain ⟨ad, rfl, hx⟩ := Kd.at_int hr0 0 (by omega) (by decide)
       exact sl_Rp.two N (by omega) (by omega) ad c0 w hx hc0
     · cases h
   · cases h
 · cases h
/-! ### cards_moulds: function 25 -/
def cards_moulds.f (a0 : Int) : Option (List Int) := (some (([1, 1, 2, 4] : List Int) : List Int)).bind fun y159 => (if a0 = 1 then ((sl_Rp.f (([2] : List Int)) 6).bind fun t165 => (if y159.length + t165.length < 17592186044416 then (some (y159 ++ t165)) else (none))) else (if a0 = 2 then (if y159.length < 17592186044416 then ((some (y159 ++ [1] : List Int)).bind fun y171 => ((sl_Rp.f (([2] : List Int)) 10).bind fun t177 => (if y171.length + t177.length < 17592186044416 then (some (y171 ++ t177)) else (none)))) else (none)) else (some ([] : List Int))))
set_option maxHeartbeats 8000000 in
set_option maxRecDepth 100000 in
theorem cards_moulds.calls (a0 : Int) (r : List Int) (w : World) (h : cards_moulds.f a0 = some r) :
 Calls Try.prog 25 #[.int .i64 a0] w fun e w' => ∃ v0_ : Value, e = .returned (v0_) ∧ Kd.R (Kd.int .i64) 3 w' w.heap.size (fun _ => True) v0_ r ∧ Below w.heap.size w w' := by
 have HB := Aside0.mk (Below.refl w.heap.size w)
 have H : ((some (([1, 1, 2, 4] : List Int) : List Int)).bind fun y159 => (if a0 = 1 then ((sl_Rp.f (([2] : List Int)) 6).bind fun t165 => (if y159.length + t165.length < 17592186044416 then (some (y159 ++ t165)) else (none))) else (if a0 = 2 then (if y159.length < 17592186044416 then ((some (y159 ++ [1] : List Int)).bind fun y171 => ((sl_Rp.f (([2] : List Int)) 10).bind fun t177 => (if y171.length + t177.length < 17592186044416 then (some (y171 ++ t177)) else (none)))) else (none)) else (some ([] : List Int))))) = some r := h
 clear h
 obtain ⟨y159, hy159⟩ : ∃ y_ : List Int, y_ = (([1, 1, 2, 4] : List Int)) := ⟨_, rfl⟩
 replace H : (if a0 = 1 then ((sl_Rp.f (([2] : List Int)) 6).bind fun t165 => (if y159.length + t165.length < 17592186044416 then (some (y159 ++ t165)) else (none))) else (if a0 = 2 then (if y159.length < 17592186044416 then ((some (y159 ++ [1] : List Int)).bind fun y171 => ((sl_Rp.f (([2] : List Int)) 10).bind fun t177 => (if y171.length + t177.length < 17592186044416 then (some (y171 ++ t177)) else (none)))) else (none)) else (some ([] : List Int)))) = some r := by first | (rw [hy159]; with_reducible exact H) | (have H2_ := (Option.bind_some _ _).symm.trans H; rw [hy159]; with_reducible exact H2_) | (have H2_ := (Option.bind_some _ _).symm.trans H; with_reducible exact H2_) | with_reducible exact H | (rw [hy159]; exact H) | exact H
 have Ny159 := Aside0.mk hy159
 clear hy159
 by_cases c2 : a0 = 1
 · rw [if_pos c2] at H
   have c2b0 : (a0 == 1) = true := beq_iff_eq.mpr c2
   have c2b1 : (a0 != 1) = false := bne_eq_false_iff_eq.mpr c2
   clear c2
   obtain ⟨y162, hy162⟩ : ∃ y_ : List Int, y_ = (([2] : List Int)) := ⟨_, rfl⟩
   replace H : ((sl_Rp.f y162 6).bind fun t165 => (if y159.length + t165.length < 17592186044416 then (some (y159 ++ t165)) else (none))) = some r := by first | (rw [hy162]; with_reducible exact H) | (have H2_ := (Option.bind_some _ _).symm.trans H; rw [hy162]; with_reducible exact H2_) | (have H2_ := (Option.bind_some _ _).symm.trans H; with_reducible exact H2_) | with_reducible exact H | (rw [hy162]; exact H) | exact H
   have Ny162 := Aside0.mk hy162
   clear hy162
   replace H := Option.bind_eq_some_iff.mp H
   obtain ⟨t165, A30, H⟩ := H
   replace H : (if y159.length + t165.length < 17592186044416 then (some (y159 ++ t165)) else (none)) = some r := H
   have A3 := Aside0.mk A30
   clear A30
   by_cases c4 : y159.length + t165.length < 17592186044416
   · rw [if_pos c4] at H
     have LMc4 := Aside0.mk c4
     clear c4
     obtain ⟨y168, hy168⟩ : ∃ y_ : List Int, y_ = (y159 ++ t165) := ⟨_, rfl⟩
     replace H : (some y168) = some r := by first | (rw [hy168]; with_reducible exact H) | (have H2_ := (Option.bind_some _ _).symm.trans H; rw [hy168]; with_reducible exact H2_) | (have H2_ := (Option.bind_some _ _).symm.trans H; with_reducible exact H2_) | with_reducible exact H | (rw [hy168]; exact H) | exact H
     have Ny168 := Aside0.mk hy168
     clear hy168
     obtain rfl := Option.some.inj H
     go_enter Try.func25, Try.ntmps25
     go_wp2_with (first | ((with_reducible refine gate_dst (N := 4) rfl ?_); refine Kd.R_lit (Kd.int .i64) _ 3 ?hg (N := 4) ?hd (xs := ([1, 1, 2, 4] : List Int)) (inner := [.int .i64 1, .int .i64 1, .int .i64 2, .int .i64 4]) (ok := fun _ => True) (okp := fun _ => True) ?hr ?hp (fun _ hk => hk) trivial (Below.refl _ _) (Nat.le_refl _) (by simp) ?_; (case hd => rfl); (case hg => rfl); (case hr => first | (go_simp; done) | (go_simp; rfl)); (case hp => exact (Reps.one (show Kd.M (Kd.int .i64) _ _ _ 1 [.int .i64 1] from rfl) (Reps.one (show Kd.M (Kd.int .i64) _ _ _ 1 [.int .i64 1] from rfl) (Reps.one (show Kd.M (Kd.int .i64) _ _ _ 2 [.int .i64 2] from rfl) (Reps.one (show Kd.M (Kd.int .i64) _ _ _ 4 [.int .i64 4] from rfl) (Reps.none _ _)))))); intro v160 w5 ho6 hb hg_ hnew_; clear hg_ hnew_; (first | rw [← Ny159.out] at ho6 | (simp only [Int.reduceToNat] at ho6; rw [← Ny159.out] at ho6)); have HO161 := Aside0.mk (Kd.R_lower ho6 (below_size (zh0 HB.out))); replace HB := Aside0.mk (below_step (zh0 HB.out) hb); clear hb ho6) | ((with_reducible refine gate_dst (N := 9) rfl ?_); refine Kd.R_lit (Kd.int .i64) _ 3 ?hg (N := 9) ?hd (xs := ([2] : List Int)) (inner := [.int .i64 2]) (ok := fun _ => True) (okp := fun _ => True) ?hr ?hp (fun _ hk => hk) trivial (Below.refl _ _) (Nat.le_refl _) (by simp) ?_; (case hd => rfl); (case hg => rfl); (case hr => first | (go_simp; done) | (go_simp; rfl)); (case hp => exact (Reps.one (show Kd.M (Kd.int .i64) _ _ _ 2 [.int .i64 2] from rfl) (Reps.none _ _))); intro v163 w7 ho8 hb hg_ hnew_; clear hg_ hnew_; (first | rw [← Ny162.out] at ho8 | (simp only [Int.reduceToNat] at ho8; rw [← Ny162.out] at ho8)); have HO164 := Aside0.mk (Kd.R_lower (Kd.R_new' ho8 (Kd.R_lt (zr HO161.out))) (below_size (zh0 HB.out))); replace HO161 := Aside0.mk (Kd.R_elder' (zr HO161.out) (Kd.R_base ho8) hb); replace HB := Aside0.mk (below_step (zh0 HB.out) hb); clear hb ho8; obtain ⟨Ao9, co9, eo9⟩ := Kd.R_slice HO164.out; subst eo9) | ((with_reducible refine gate_callee (f := 47) rfl ?_); refine zgl (some 10) Try.func47 #[.slice Ao9 y162.length co9, .int .i64 6] ?_; (with_reducible refine (sl_Rp.calls _ _ y162 6 t165 _ ?side1 ?side2 A3.out).mono ?_); (case side1 => exact zc ((Kd.R_reads' HO164.out).2.2)); (case side2 => exact (Kd.R_reads' HO164.out).2.1); rintro e w10 ⟨v166, rfl, ho0, hb⟩; refine ⟨_, rfl, ?_⟩; have HO167 := Aside0.mk (Kd.R_lower (Kd.R_new' (Kd.R_new' ho0 (Kd.R_lt (zr HO161.out))) (Kd.R_lt (zr HO164.out))) (below_size (zh0 HB.out))); replace HO161 := Aside0.mk (Kd.R_elder' (zr HO161.out) (Kd.R_base ho0) hb); replace HO164 := Aside0.mk (Kd.R_elder' (zr HO164.out) (Kd.R_base ho0) hb); replace HB := Aside0.mk (below_step (zh0 HB.out) hb); (try clear hb); (try clear hb2); (try clear hk); (try clear hi); (try clear ho0); obtain ⟨Ao12, co12, eo12⟩ := Kd.R_slice HO167.out; subst eo12) | ((with_reducible refine gate_builtin (b := .append) (xs := #[.tmp 8, .tmp 10]) rfl ?_); at_builtin; refine Kd.R_append_rows (Kd.int .i64) (w0 := w) w.heap.size rfl (.tmp 8) (.tmp 10) 22 3 (.int .i64 0) 8 rfl Try.underlying22 info3 rfl (by decide) (by omega) v160 y159 t165 _ _ _ (fun k_ => some k_ ≠ (.slice Ao9 y162.length co9 : Value).ownBlock ∧ some k_ ≠ (.slice Ao12 t165.length co12 : Value).ownBlock) (fun _ => False) rfl rfl ?aO ?aR (fun _ _ h => h) (fun _ h => h.elim) ?aF ?aB ?aS ?aL ?_; (case aR => repeat (first | exact (Kd.R_reads' HO167.out).2.2 | (with_reducible refine Kd.C_alloc ?_ _) | (with_reducible refine Kd.C_drewN ?_ _) | (with_reducible refine Kd.C_drew ?_))); (case aB => exact (zh0 HB.out)); (case aF => exact (fun k_ hk => ⟨Kd.fresh' (Kd.R_lt (zr HO164.out)) k_ hk, Kd.fresh' (Kd.R_lt (zr HO167.out)) k_ hk⟩)); (case aO => exact (by (with_reducible repeat (first | apply Kd.R_alloc | apply Kd.R_drewN | apply Kd.R_drew)); exact Kd.R_mono HO161.out (fun _ hk => ⟨hk.1.2, hk.2⟩))); (case aS => exact (below_size (zh0 HB.out))); (case aL => have := LMc4.out; omega); intro v169 w11 ho hb hg hat; rw [← Ny168.out] at ho; replace HO164 := Aside0.mk (Kd.R_after (ok := (fun k_ => some k_ ≠ (.slice Ao12 t165.length co12 : Value).ownBlock)) (by (with_reducible repeat (first | apply Kd.R_alloc | apply Kd.R_drewN | apply Kd.R_drew)); exact Kd.R_mono HO164.out (fun _ hk => ⟨hk.2, hk.1.2⟩)) hg hat); replace HO167 := Aside0.mk (Kd.R_after (ok := (fun k_ => some k_ ≠ (.slice Ao9 y162.length co9 : Value).ownBlock)) (by (with_reducible repeat (first | apply Kd.R_alloc | apply Kd.R_drewN | apply Kd.R_drew)); exact Kd.R_mono HO167.out (fun _ hk => ⟨hk.2, hk.1.2⟩)) hg hat); replace HB := Aside0.mk (hb); have HO170 := Aside0.mk (ho); (try clear HO161); clear ho hb hg hat))
     go_ret
     exact ⟨_, ze, by (with_reducible repeat (first | apply Kd.R_alloc | apply Kd.R_drewN | apply Kd.R_drew)); exact Kd.R_mono HO170.out (fun _ hk => trivial), zh0 HB.out⟩
   · rw [if_neg c4] at H
     exact absurd H (by simp)
 · rw [if_neg c2] at H
   have c2b0 : (a0 == 1) = false := beq_eq_false_iff_ne.mpr c2
   have c2b1 : (a0 != 1) = true := bne_iff_ne.mpr c2
   by_cases c13 : a0 = 2
   · rw [if_pos c13] at H
     have c13b0 : (a0 == 2) = true := beq_iff_eq.mpr c13
     have c13b1 : (a0 != 2) = false := bne_eq_false_iff_eq.mpr c13
     clear c13
     by_cases c14 : y159.length < 17592186044416
     · rw [if_pos c14] at H
       have LMc14 := Aside0.mk c14
       clear c14
       obtain ⟨y171, hy171⟩ : ∃ y_ : List Int, y_ = (y159 ++ [1]) := ⟨_, rfl⟩
       replace H : ((sl_Rp.f (([2] : List Int)) 10).bind fun t177 => (if y171.length + t177.length < 17592186044416 then (some (y171 ++ t177)) else (none))) = some r := by first | (rw [hy171]; with_reducible exact H) | (have H2_ := (Option.bind_some _ _).symm.trans H; rw [hy171]; with_reducible exact H2_) | (have H2_ := (Option.bind_some _ _).symm.trans H; with_reducible exact H2_) | with_reducible exact H | (rw [hy171]; exact H) | exact H
       have Ny171 := Aside0.mk hy171
       clear hy171
       obtain ⟨y174, hy174⟩ : ∃ y_ : List Int, y_ = (([2] : List Int)) := ⟨_, rfl⟩
       replace H : ((sl_Rp.f y174 10).bind fun t177 => (if y171.length + t177.length < 17592186044416 then (some (y171 ++ t177)) else (none))) = some r := by first | (rw [hy174]; with_reducible exact H) | (have H2_ := (Option.bind_some _ _).symm.trans H; rw [hy174]; with_reducible exact H2_) | (have H2_ := (Option.bind_some _ _).symm.trans H; with_reducible exact H2_) | with_reducible exact H | (rw [hy174]; exact H) | exact H
       have Ny174 := Aside0.mk hy174
       clear hy174
       replace H := Option.bind_eq_some_iff.mp H
       obtain ⟨t177, A150, H⟩ := H
       replace H : (if y171.length + t177.length < 17592186044416 then (some (y171 ++ t177)) else (none)) = some r := H
       have A15 := Aside0.mk A150
       clear A150
       by_cases c16 : y171.length + t177.length < 17592186044416
       · rw [if_pos c16] at H
         have LMc16 := Aside0.mk c16
         clear c16
         obtain ⟨y180, hy180⟩ : ∃ y_ : List Int, y_ = (y171 ++ t177) := ⟨_, rfl⟩
         replace H : (some y180) = some r := by first | (rw [hy180]; with_reducible exact H) | (have H2_ := (Option.bind_some _ _).symm.trans H; rw [hy180]; with_reducible exact H2_) | (have H2_ := (Option.bind_some _ _).symm.trans H; with_reducible exact H2_) | with_reducible exact H | (rw [hy180]; exact H) | exact H
         have Ny180 := Aside0.mk hy180
         clear hy180
         obtain rfl := Option.some.inj H
         go_enter Try.func25, Try.ntmps25
         go_wp2_with (first | ((with_reducible refine gate_dst (N := 4) rfl ?_); refine Kd.R_lit (Kd.int .i64) _ 3 ?hg (N := 4) ?hd (xs := ([1, 1, 2, 4] : List Int)) (inner := [.int .i64 1, .int .i64 1, .int .i64 2, .int .i64 4]) (ok := fun _ => True) (okp := fun _ => True) ?hr ?hp (fun _ hk => hk) trivial (Below.refl _ _) (Nat.le_refl _) (by simp) ?_; (case hd => rfl); (case hg => rfl); (case hr => first | (go_simp; done) | (go_simp; rfl)); (case hp => exact (Reps.one (show Kd.M (Kd.int .i64) _ _ _ 1 [.int .i64 1] from rfl) (Reps.one (show Kd.M (Kd.int .i64) _ _ _ 1 [.int .i64 1] from rfl) (Reps.one (show Kd.M (Kd.int .i64) _ _ _ 2 [.int .i64 2] from rfl) (Reps.one (show Kd.M (Kd.int .i64) _ _ _ 4 [.int .i64 4] from rfl) (Reps.none _ _)))))); intro v160 w17 ho18 hb hg_ hnew_; clear hg_ hnew_; (first | rw [← Ny159.out] at ho18 | (simp only [Int.reduceToNat] at ho18; rw [← Ny159.out] at ho18)); have HO161 := Aside0.mk (Kd.R_lower ho18 (below_size (zh0 HB.out))); replace HB := Aside0.mk (below_step (zh0 HB.out) hb); clear hb ho18) | ((with_reducible refine gate_builtin (b := .append) (xs := #[.tmp 14, .tmp 15]) rfl ?_); at_builtin; refine Kd.R_append (Kd.int .i64) (w0 := w) w.heap.size rfl (.tmp 14) (.tmp 15) 22 3 (.int .i64 0) 8 rfl Try.underlying22 info3 rfl (by decide) (by omega) v160 y159 1 [.int .i64 1] (fun _ => True) (fun _ => False) rfl rfl ?aP (fun _ hk => hk.elim) ?aF ?aO ?aB ?aS ?aL ?_; (case aP => exact rfl); (case aB => exact (zh0 HB.out)); (case aF => exact (fun _ _ => trivial)); (case aO => exact (zr HO161.out)); (case aS => exact (below_size (zh0 HB.out))); (case aL => have := LMc14.out; omega); intro v172 w19 ho hb hg hat; rw [← Ny171.out] at ho; replace HB := Aside0.mk (hb); have HO173 := Aside0.mk (ho); (try clear HO161); clear ho hb hg hat) | ((with_reducible refine gate_dst (N := 17) rfl ?_); refine Kd.R_lit (Kd.int .i64) _ 3 ?hg (N := 17) ?hd (xs := ([2] : List Int)) (inner := [.int .i64 2]) (ok := fun _ => True) (okp := fun _ => True) ?hr ?hp (fun _ hk => hk) trivial (Below.refl _ _) (Nat.le_refl _) (by simp) ?_; (case hd => rfl); (case hg => rfl); (case hr => first | (go_simp; done) | (go_simp; rfl)); (case hp => exact (Reps.one (show Kd.M (Kd.int .i64) _ _ _ 2 [.int .i64 2] from rfl) (Reps.none _ _))); intro v175 w20 ho21 hb hg_ hnew_; clear hg_ hnew_; (first | rw [← Ny174.out] at ho21 | (simp only [Int.reduceToNat] at ho21; rw [← Ny174.out] at ho21)); have HO176 := Aside0.mk (Kd.R_lower (Kd.R_new' ho21 (Kd.R_lt (zr HO173.out))) (below_size (zh0 HB.out))); replace HO173 := Aside0.mk (Kd.R_elder' (zr HO173.out) (Kd.R_base ho21) hb); replace HB := Aside0.mk (below_step (zh0 HB.out) hb); clear hb ho21; obtain ⟨Ao22, co22, eo22⟩ := Kd.R_slice HO176.out; subst eo22) | ((with_reducible refine gate_callee (f := 47) rfl ?_); refine zgl (some 18) Try.func47 #[.slice Ao22 y174.length co22, .int .i64 10] ?_; (with_reducible refine (sl_Rp.calls _ _ y174 10 t177 _ ?side1 ?side2 A15.out).mono ?_); (case side1 => exact zc ((Kd.R_reads' HO176.out).2.2)); (case side2 => exact (Kd.R_reads' HO176.out).2.1); rintro e w23 ⟨v178, rfl, ho0, hb⟩; refine ⟨_, rfl, ?_⟩; have HO179 := Aside0.mk (Kd.R_lower (Kd.R_new' (Kd.R_new' ho0 (Kd.R_lt (zr HO173.out))) (Kd.R_lt (zr HO176.out))) (below_size (zh0 HB.out))); replace HO173 := Aside0.mk (Kd.R_elder' (zr HO173.out) (Kd.R_base ho0) hb); replace HO176 := Aside0.mk (Kd.R_elder' (zr HO176.out) (Kd.R_base ho0) hb); replace HB := Aside0.mk (below_step (zh0 HB.out) hb); (try clear hb); (try clear hb2); (try clear hk); (try clear hi); (try clear ho0); obtain ⟨Ao25, co25, eo25⟩ := Kd.R_slice HO179.out; subst eo25) | ((with_reducible refine gate_builtin (b := .append) (xs := #[.tmp 16, .tmp 18]) rfl ?_); at_builtin; refine Kd.R_append_rows (Kd.int .i64) (w0 := w) w.heap.size rfl (.tmp 16) (.tmp 18) 22 3 (.int .i64 0) 8 rfl Try.underlying22 info3 rfl (by decide) (by omega) v172 y171 t177 _ _ _ (fun k_ => some k_ ≠ (.slice Ao22 y174.length co22 : Value).ownBlock ∧ some k_ ≠ (.slice Ao25 t177.length co25 : Value).ownBlock) (fun _ => False) rfl rfl ?aO ?aR (fun _ _ h => h) (fun _ h => h.elim) ?aF ?aB ?aS ?aL ?_; (case aR => repeat (first | exact (Kd.R_reads' HO179.out).2.2 | (with_reducible refine Kd.C_alloc ?_ _) | (with_reducible refine Kd.C_drewN ?_ _) | (with_reducible refine Kd.C_drew ?_))); (case aB => exact (zh0 HB.out)); (case aF => exact (fun k_ hk => ⟨Kd.fresh' (Kd.R_lt (zr HO176.out)) k_ hk, Kd.fresh' (Kd.R_lt (zr HO179.out)) k_ hk⟩)); (case aO => exact (by (with_reducible repeat (first | apply Kd.R_alloc | apply Kd.R_drewN | apply Kd.R_drew)); exact Kd.R_mono HO173.out (fun _ hk => ⟨hk.1.2, hk.2⟩))); (case aS => exact (below_size (zh0 HB.out))); (case aL => have := LMc16.out; omega); intro v181 w24 ho hb hg hat; rw [← Ny180.out] at ho; replace HO176 := Aside0.mk (Kd.R_after (ok := (fun k_ => some k_ ≠ (.slice Ao25 t177.length co25 : Value).ownBlock)) (by (with_reducible repeat (first | apply Kd.R_alloc | apply Kd.R_drewN | apply Kd.R_drew)); exact Kd.R_mono HO176.out (fun _ hk => ⟨hk.2, hk.1.2⟩)) hg hat); replace HO179 := Aside0.mk (Kd.R_after (ok := (fun k_ => some k_ ≠ (.slice Ao22 y174.length co22 : Value).ownBlock)) (by (with_reducible repeat (first | apply Kd.R_alloc | apply Kd.R_drewN | apply Kd.R_drew)); exact Kd.R_mono HO179.out (fun _ hk => ⟨hk.2, hk.1.2⟩)) hg hat); replace HB := Aside0.mk (hb); have HO182 := Aside0.mk (ho); (try clear HO173); clear ho hb hg hat))
         go_ret
         exact ⟨_, ze, by (with_reducible repeat (first | apply Kd.R_alloc | apply Kd.R_drewN | apply Kd.R_drew)); exact Kd.R_mono HO182.out (fun _ hk => trivial), zh0 HB.out⟩
       · rw [if_neg c16] at H
         exact absurd H (by simp)
     · rw [if_neg c14] at H
       exact absurd H (by simp)
   · rw [if_neg c13] at H
     have c13b0 : (a0 == 2) = false := beq_eq_false_iff_ne.mpr c13
     have c13b1 : (a0 != 2) = true := bne_iff_ne.mpr c13
     obtain rfl := Option.some.inj H
     go_enter Try.func25, Try.ntmps25
     go_wp2_with (first | ((with_reducible refine gate_dst (N := 4) rfl ?_); refine Kd.R_lit (Kd.int .i64) _ 3 ?hg (N := 4) ?hd (xs := ([1, 1, 2, 4] : List Int)) (inner := [.int .i64 1, .int .i64 1, .int .i64 2, .int .i64 4]) (ok := fun _ => True) (okp := fun _ => True) ?hr ?hp (fun _ hk => hk) trivial (Below.refl _ _) (Nat.le_refl _) (by simp) ?_; (case hd => rfl); (case hg => rfl); (case hr => first | (go_simp; done) | (go_simp; rfl)); (case hp => exact (Reps.one (show Kd.M (Kd.int .i64) _ _ _ 1 [.int .i64 1] from rfl) (Reps.one (show Kd.M (Kd.int .i64) _ _ _ 1 [.int .i64 1] from rfl) (Reps.one (show Kd.M (Kd.int .i64) _ _ _ 2 [.int .i64 2] from rfl) (Reps.one (show Kd.M (Kd.int .i64) _ _ _ 4 [.int .i64 4] from rfl) (Reps.none _ _)))))); intro v160 w26 ho27 hb hg_ hnew_; clear hg_ hnew_; (first | rw [← Ny159.out] at ho27 | (simp only [Int.reduceToNat] at ho27; rw [← Ny159.out] at ho27)); have HO161 := Aside0.mk (Kd.R_lower ho27 (below_size (zh0 HB.out))); replace HB := Aside0.mk (below_step (zh0 HB.out) hb); clear hb ho27))
     go_ret
     exact ⟨_, ze, by first | exact Kd.R_nil _ _ _ _ _ | exact Kd.N_nil _ _ _ _ _ | exact Kd.V_nil _ _ _ _ _ | exact Kd.Q_nil _ _ _ _ _ | exact Kd.S_nil _ _ _ _ _, zh0 HB.out⟩

end Go.Proofs.Ytgigoogekimgkaa.GCrd
