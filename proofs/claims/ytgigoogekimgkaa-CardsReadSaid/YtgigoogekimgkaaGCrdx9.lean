/- printed for this claim by gprint.py, a program of this session, that drives the kit's printer. -/
import Derived.Test.YtgigoogekimgkaaGCrdx0
import Derived.Test.YtgigoogekimgkaaZ
import Derived.Test.YtgigoogekimgkaaGCrdx2
import Derived.Test.YtgigoogekimgkaaGCrdx5
namespace Go.Proofs.Ytgigoogekimgkaa.GCrd
open Go.RowKit Go.Proofs.YtgigoogekimgkaaW.PrintWords Go.Proofs.YtgigoogekimgkaaW.PrintLast Go.Proofs.YtgigoogekimgkaaW.PrintMore
attribute [local go_sem] max2_int min2_int max_two min_two max_three min_three max_four min_four   -- for this text's walks alone
set_option linter.unusedVariables false
set_option linter.unusedSimpArgs false

/-! ### mould_Read: function 35 -/
mutual
def mould_Read.l0 : Nat → ByteArray → List Int → List Int → Int → Int → Option (List Int × Int)
 | 0, _, _, _, _, _ => none
 | k + 1, x1, x7, x25, x26, x27 => if x27 < x26 then (if 0 ≤ x27 then (if x27 < (x25.length : Int) then (if 0 ≤ (rd x25 x27) then (if (rd x25 x27) ≤ (x1.size : Int) then ((GConv.bytes.f (x1.extract 0 ((rd x25 x27) : Int).toNat)).bind fun t236 => (mould_Read.l1 k x1 x7 x27 (rd x25 x27) x25 x26 x27 t236 (t236.length : Int) 0)) else (none)) else (none)) else (none)) else (none)) else (some (x7, 0))
def mould_Read.l1 : Nat → ByteArray → List Int → Int → Int → List Int → Int → Int → List Int → Int → Int → Option (List Int × Int)
 | 0, _, _, _, _, _, _, _, _, _, _ => none
 | k + 1, x1, x7, x8, x9, x25, x26, x27, x35, x36, x37 => if x37 < x36 then (if 0 ≤ x37 then (if x37 < (x35.length : Int) then (if 0 ≤ x8 then (if x8 < (x7.length : Int) then (if 0 ≤ (wrap64 (8 * x37)) then (mould_Read.l1 k x1 (x7.set (x8 : Int).toNat (Go.bits .or .i64 (rd x7 x8) (shl .i64 (wrap64 (rd x35 x37)) (wrap64 (8 * x37))))) x8 x9 x25 x26 x27 x35 x36 (wrap64 (x37 + 1))) else (none)) else (none)) else (none)) else (none)) else (none)) else (if 0 ≤ x9 then (if x9 ≤ (x1.size : Int) then (mould_Read.l0 k (x1.extract (x9 : Int).toNat x1.size) x7 x25 x26 (wrap64 (x27 + 1))) else (none)) else (none))
end
def mould_Read.f (k : Nat) (l0 : List Int) (a1 : ByteArray) : Option (List Int × Int) := (mould_Size.f k l0).bind fun t231 => (if t231 < 0 then (some (([] : List Int), 1)) else (if (a1.size : Int) < t231 then (some (([] : List Int), 2)) else (if 0 ≤ (l0.length : Int) then (if ((l0.length : Int) : Int).toNat ≤ 35184372088832 then (mould_Read.l0 k a1 (List.replicate ((l0.length : Int) : Int).toNat 0) l0 (l0.length : Int) 0) else (none)) else (none))))
theorem mould_Read.mono_l : ∀ k, (∀ y0 y1 y2 y3 y4, LeO (mould_Read.l0 k y0 y1 y2 y3 y4) (mould_Read.l0 (k + 1) y0 y1 y2 y3 y4)) ∧ (∀ y0 y1 y2 y3 y4 y5 y6 y7 y8 y9, LeO (mould_Read.l1 k y0 y1 y2 y3 y4 y5 y6 y7 y8 y9) (mould_Read.l1 (k + 1) y0 y1 y2 y3 y4 y5 y6 y7 y8 y9))
 | 0 => ⟨fun _ _ _ _ _ r h => by simp [mould_Read.l0] at h, fun _ _ _ _ _ _ _ _ _ _ r h => by simp [mould_Read.l1] at h⟩
 | k + 1 => by
   obtain ⟨ih0, ih1⟩ := mould_Read.mono_l k
   refine ⟨?_, ?_⟩
   · intro y0 y1 y2 y3 y4
     unfold mould_Read.l0
     repeat' first
     | (with_reducible exact ih0 _ _ _ _ _)
     | (with_reducible exact ih1 _ _ _ _ _ _ _ _ _ _)
     | (with_reducible exact mould_Size.mono _ _)
     | (with_reducible exact LeO.refl _)
     | (with_reducible exact LeO.none _)
     | (with_reducible refine LeO.ite ?_ ?_)
     | (with_reducible refine LeO.bind ?_ (fun _ => ?_))
     | exact ih0 _ _ _ _ _
     | exact ih1 _ _ _ _ _ _ _ _ _ _
     | exact mould_Size.mono _ _
     | exact LeO.none _
     | refine LeO.ite ?_ ?_
     | refine LeO.bind ?_ (fun _ => ?_)
   · intro y0 y1 y2 y3 y4 y5 y6 y7 y8 y9
     unfold mould_Read.l1
     repeat' first
     | (with_reducible exact ih0 _ _ _ _ _)
     | (with_reducible exact ih1 _ _ _ _ _ _ _ _ _ _)
     | (with_reducible exact mould_Size.mono _ _)
     | (with_reducible exact LeO.refl _)
     | (with_reducible exact LeO.none _)
     | (with_reducible refine LeO.ite ?_ ?_)
     | (with_reducible refine LeO.bind ?_ (fun _ => ?_))
     | exact ih0 _ _ _ _ _
     | exact ih1 _ _ _ _ _ _ _ _ _ _
     | exact mould_Size.mono _ _
     | exact LeO.none _
     | refine LeO.ite ?_ ?_
     | refine LeO.bind ?_ (fun _ => ?_)
theorem mould_Read.mono : ∀ a0 a1 k, LeO (mould_Read.f k a0 a1) (mould_Read.f (k + 1) a0 a1) := by
 intro a0 a1 k
 obtain ⟨ih0, ih1⟩ := mould_Read.mono_l k
 unfold mould_Read.f
 repeat' first
  | (with_reducible exact ih0 _ _ _ _ _)
  | (with_reducible exact ih1 _ _ _ _ _ _ _ _ _ _)
  | (with_reducible exact mould_Size.mono _ _)
  | (with_reducible exact LeO.refl _)
  | (with_reducible exact LeO.none _)
  | (with_reducible refine LeO.ite ?_ ?_)
  | (with_reducible refine LeO.bind ?_ (fun _ => ?_))
  | exact ih0 _ _ _ _ _
  | exact ih1 _ _ _ _ _ _ _ _ _ _
  | exact mould_Size.mono _ _
  | exact LeO.none _
  | refine LeO.ite ?_ ?_
  | refine LeO.bind ?_ (fun _ => ?_)
def mould_Read.T13 : Bool × List (List Nat × List Nat) := (true, [([], []), ([], []), ([0, 1], [0, 1]), ([2], [2]), ([], []), ([4], [4]), ([], []), ([6], [6]), ([5, 7], [5, 7]), ([3, 8], [3, 8]), ([0, 1, 0, 1, 2, 3, 4, 5, 6, 7, 8, 9], [0, 1]), ([10, 9, 0, 1, 2, 3, 4, 5, 6, 7, 8, 9], [9, 10])])
def mould_Read.B13 : List Nat := [0, 0, 3, 7, 0, 16, 0, 64, 240, 511, 1023, 2047]
theorem mould_Read.tab13 : rtab .any (opsOf Try.f35 13) = mould_Read.T13 := by kernel_rfl
theorem mould_Read.bits13 : waitsOk mould_Read.T13.2 mould_Read.B13 = true := by kernel_rfl
set_option maxHeartbeats 8000000 in
set_option maxRecDepth 100000 in
theorem mould_Read.calls (k : Nat) (A0 : Option Addr) (c0 : Nat) (l0 : List Int) (a1 : ByteArray) (r1 : List Int) (r2 : Int) (w : World) (hr0 : Kd.C (Kd.int .i64) w A0 l0.length l0) (hc0 : l0.length ≤ c0) (h : mould_Read.f k l0 a1 = some (r1, r2)) :
 Calls Try.prog 35 #[.slice A0 l0.length c0, .string a1] w fun e w' => ∃ v0_ : Value, e = .returned (.tuple #[v0_, .int .i64 r2]) ∧ Kd.R (Kd.int .i64) 3 w' w.heap.size (fun _ => True) v0_ r1 ∧ Below w.heap.size w w' := by
 have HR0 := Aside0.mk hr0
 have HC0 := Aside0.mk hc0
 clear hr0 hc0
 have HB := Aside0.mk (Below.refl w.heap.size w)
 have H : ((mould_Size.f k l0).bind fun t231 => (if t231 < 0 then (some (([] : List Int), 1)) else (if (a1.size : Int) < t231 then (some (([] : List Int), 2)) else (if 0 ≤ (l0.length : Int) then (if ((l0.length : Int) : Int).toNat ≤ 35184372088832 then (mould_Read.l0 k a1 (List.replicate ((l0.length : Int) : Int).toNat 0) l0 (l0.length : Int) 0) else (none)) else (none))))) = some (r1, r2) := h
 clear h
 replace H := Option.bind_eq_some_iff.mp H
 obtain ⟨t231, A30, H⟩ := H
 replace H : (if t231 < 0 then (some (([] : List Int), 1)) else (if (a1.size : Int) < t231 then (some (([] : List Int), 2)) else (if 0 ≤ (l0.length : Int) then (if ((l0.length : Int) : Int).toNat ≤ 35184372088832 then (mould_Read.l0 k a1 (List.replicate ((l0.length : Int) : Int).toNat 0) l0 (l0.length : Int) 0) else (none)) else (none)))) = some (r1, r2) := H
 have A3 := Aside0.mk A30
 clear A30
 by_cases c4 : t231 < 0
 · rw [if_pos c4] at H
   have c4b0 : decide (t231 < 0) = true := decide_eq_true c4
   clear c4
   simp only [Option.some.injEq, Prod.mk.injEq] at H
   obtain ⟨rfl, rfl⟩ := H
   go_enter Try.func35, Try.ntmps35
   go_wp2_with (first | ((with_reducible refine gate_callee (f := 46) rfl ?_); refine zgl (some 13) Try.func46 #[.slice A0 l0.length c0] ?_; (with_reducible refine (mould_Size.calls k _ _ l0 t231 _ ?side1 ?side2 A3.out).mono ?_); (case side1 => exact zc (HR0.out)); (case side2 => exact HC0.out); rintro e w' ⟨rfl, ⟨nd, rfl⟩⟩; refine ⟨_, rfl, ?_⟩))
   go_ret2
   exact ⟨_, ze, by first | exact Kd.R_nil _ _ _ _ _ | exact Kd.N_nil _ _ _ _ _ | exact Kd.V_nil _ _ _ _ _ | exact Kd.Q_nil _ _ _ _ _ | exact Kd.S_nil _ _ _ _ _, zh0 HB.out⟩
 · rw [if_neg c4] at H
   have c4b0 : decide (t231 < 0) = false := decide_eq_false c4
   clear c4
   by_cases c5 : (a1.size : Int) < t231
   · rw [if_pos c5] at H
     have c5b0 : decide ((a1.size : Int) < t231) = true := decide_eq_true c5
     clear c5
     simp only [Option.some.injEq, Prod.mk.injEq] at H
     obtain ⟨rfl, rfl⟩ := H
     go_enter Try.func35, Try.ntmps35
     go_wp2_with (first | ((with_reducible refine gate_callee (f := 46) rfl ?_); refine zgl (some 13) Try.func46 #[.slice A0 l0.length c0] ?_; (with_reducible refine (mould_Size.calls k _ _ l0 t231 _ ?side1 ?side2 A3.out).mono ?_); (case side1 => exact zc (HR0.out)); (case side2 => exact HC0.out); rintro e w' ⟨rfl, ⟨nd, rfl⟩⟩; refine ⟨_, rfl, ?_⟩))
     go_ret2
     exact ⟨_, ze, by first | exact Kd.R_nil _ _ _ _ _ | exact Kd.N_nil _ _ _ _ _ | exact Kd.V_nil _ _ _ _ _ | exact Kd.Q_nil _ _ _ _ _ | exact Kd.S_nil _ _ _ _ _, zh0 HB.out⟩
   · rw [if_neg c5] at H
     have c5b0 : decide ((a1.size : Int) < t231) = false := decide_eq_false c5
     clear c5
     by_cases c6 : 0 ≤ (l0.length : Int)
     · rw [if_pos c6] at H
       have c6b0 := eq_true c6
       have c6b1 : decide (0 ≤ (l0.length : Int)) = true := decide_eq_true c6
       clear c6
       by_cases c7 : ((l0.length : Int) : Int).toNat ≤ 35184372088832
       · rw [if_pos c7] at H
         have c7b0 := eq_true c7
         have c7b1 : decide (((l0.length : Int) : Int).toNat ≤ 35184372088832) = true := decide_eq_true c7
         clear c7
         obtain ⟨y232, hy232⟩ : ∃ y_ : List Int, y_ = (List.replicate ((l0.length : Int) : Int).toNat 0) := ⟨_, rfl⟩
         replace H : (mould_Read.l0 k a1 y232 l0 (l0.length : Int) 0) = some (r1, r2) := by first | (rw [hy232]; with_reducible exact H) | (have H2_ := (Option.bind_some _ _).symm.trans H; rw [hy232]; with_reducible exact H2_) | (have H2_ := (Option.bind_some _ _).symm.trans H; with_reducible exact H2_) | with_reducible exact H | (rw [hy232]; exact H) | exact H
         have Ny232 := Aside0.mk hy232
         clear hy232
         have H' := Aside0.mk H
         clear H
         go_enter Try.func35, Try.ntmps35
         go_wp2_with (first | ((with_reducible refine gate_callee (f := 46) rfl ?_); refine zgl (some 13) Try.func46 #[.slice A0 l0.length c0] ?_; (with_reducible refine (mould_Size.calls k _ _ l0 t231 _ ?side1 ?side2 A3.out).mono ?_); (case side1 => exact zc (HR0.out)); (case side2 => exact HC0.out); rintro e w' ⟨rfl, ⟨nd, rfl⟩⟩; refine ⟨_, rfl, ?_⟩) | ((with_reducible refine gate_dst (N := 24) rfl ?_); refine Kd.R_make (Kd.int .i64) _ 3 rfl (N := 24) rfl 22 _ _ rfl (l0.length : Int) rfl rfl Try.underlying22 (.int .i64 0) 8 info3 rfl (by decide) (by omega) 0 (ok := fun _ => True) (okp := fun _ => True) rfl (fun _ hk => hk) trivial (zd) (Nat.le_trans (Nat.mul_le_mul_right _ (zd : (l0.length : Int).toNat ≤ 35184372088832)) (by omega)) (Below.refl _ _) (Nat.le_refl _) ?_; intro v233 w8 ho9 hb hg_ hnew_; clear hg_ hnew_; (first | rw [← Ny232.out] at ho9 | (simp only [Int.reduceToNat] at ho9; rw [← Ny232.out] at ho9)); have HO234 := Aside0.mk (Kd.R_lower ho9 (below_size (zh0 HB.out))); replace HB := Aside0.mk (below_step (zh0 HB.out) hb); clear hb ho9))
         go_loopg [1, 27] k (fun kq v1 v27 w' => ∃ (x1_1 : ByteArray) (x7_1 : List Int) (x27_1 : Int), v1 = .string x1_1 ∧ v27 = .int .i64 x27_1 ∧ Aside0 (mould_Read.l0 kq x1_1 x7_1 l0 (l0.length : Int) x27_1 = some (r1, r2)) ∧ Aside0 (kq ≤ k) ∧ Aside0 (Kd.R (Kd.int .i64) 3 w' w.heap.size (fun _ => True) v233 x7_1) ∧ Aside0 (Below w.heap.size w w'))
         case atStart => exact ⟨(a1), (y232), (0), (zs), (zs), H', ⟨Nat.le_refl _⟩, ⟨zr HO234.out⟩, ⟨zh0 HB.out⟩⟩
         case round =>
          clear H'
          (try clear p2); (try clear c3)
          (try clear c4); (try clear c4b0)
          (try clear c5); (try clear c5b0)
          (try clear c6); (try clear c6b0)
          (try clear c6b1); (try clear c7)
          (try clear c7b0); (try clear c7b1)
          obtain ⟨x1_1, x7_1, x27_1, rfl, rfl, HA, HK1, HO_7, HB⟩ := hrel
          cases gk with
          | zero => exact absurd HA.out (by simp [mould_Read.l0])
          | succ k1 =>
            have H := HA.out
            clear HA
            simp only [mould_Read.l0] at H
            by_cases c10 : x27_1 < (l0.length : Int)
            · rw [if_pos c10] at H
              have c10b0 : decide (x27_1 < (l0.length : Int)) = true := decide_eq_true c10
              clear c10
              by_cases c11 : 0 ≤ x27_1
              · rw [if_pos c11] at H
                have c11b0 : decide (0 ≤ x27_1) = true := decide_eq_true c11
                clear c11
                by_cases c12 : x27_1 < (l0.length : Int)
                · rw [if_pos c12] at H
                  have c12b0 : decide (x27_1 < (l0.length : Int)) = true := decide_eq_true c12
                  clear c12
                  by_cases c13 : 0 ≤ (rd l0 x27_1)
                  · rw [if_pos c13] at H
                    have c13b0 := eq_true c13
                    have c13b1 : decide (0 ≤ (rd l0 x27_1)) = true := decide_eq_true c13
                    clear c13
                    by_cases c14 : (rd l0 x27_1) ≤ (x1_1.size : Int)
                    · rw [if_pos c14] at H
                      have c14b0 := eq_true c14
                      have c14b1 : decide ((rd l0 x27_1) ≤ (x1_1.size : Int)) = true := decide_eq_true c14
                      clear c14
                      replace H := Option.bind_eq_some_iff.mp H
                      obtain ⟨t236, A150, H⟩ := H
                      replace H : (mould_Read.l1 k1 x1_1 x7_1 x27_1 (rd l0 x27_1) l0 (l0.length : Int) x27_1 t236 (t236.length : Int) 0) = some (r1, r2) := H
                      have A15 := Aside0.mk A150
                      clear A150
                      have H' := Aside0.mk H
                      clear H
                      have p235 : 0 ≤ (x27_1 : Int) := zd
                      have q235 : x27_1 < (l0.length : Int) := zd
                      obtain ⟨ad235, e235, hx235_0⟩ := Kd.at_int HR0.out x27_1 p235 q235
                      cases e235
                      replace hx235_0 := pw_cell_below HB.out hx235_0
                      replace p235 := eq_true p235
                      replace q235 := eq_true q235
                      go_wp2_with (first | ((with_reducible refine gate_dst (N := 35) rfl ?_); refine goesConv (some 35) rfl rfl 9 62 _ rfl (x1_1.extract 0 ((rd l0 x27_1) : Int).toNat) rfl ?_; (with_reducible refine (GConv.bytes.calls (x1_1.extract 0 ((rd l0 x27_1) : Int).toNat) t236 _ A15.out).mono ?_); rintro e w16 ⟨v237, rfl, ho0, hb⟩; refine ⟨_, rfl, ?_⟩; have HO238 := Aside0.mk (Kd.V_lower (Kd.V_mono (ok' := fun k_ => some k_ ≠ (v233 : Value).ownBlock) ho0 (fun k_ hk_ => (Kd.fresh' (Kd.R_lt (zr HO_7.out)) k_ hk_))) (below_size (zh0 HB.out))); replace HO_7 := Aside0.mk (zR HO_7.out hb); replace HB := Aside0.mk (below_step (zh0 HB.out) hb); (try clear hb); (try clear hb2); (try clear hk); (try clear hi); (try clear ho0); obtain ⟨Ao17, co17, eo17⟩ := Kd.V_slice HO238.out; subst eo17))
                      go_loopg [37] k1 (fun kq v37 w' => ∃ (x7_2 : List Int) (x37_2 : Int), v37 = .int .i64 x37_2 ∧ Aside0 (mould_Read.l1 kq x1_1 x7_2 x27_1 (rd l0 x27_1) l0 (l0.length : Int) x27_1 t236 (t236.length : Int) x37_2 = some (r1, r2)) ∧ Aside0 (kq ≤ k1) ∧ Aside0 (Kd.R (Kd.int .i64) 3 w' w.heap.size (fun _ => True) v233 x7_2) ∧ Aside0 (Kd.V (Kd.int .u8) 5 w' w.heap.size (fun k_ => some k_ ≠ (v233 : Value).ownBlock) (.slice Ao17 t236.length co17) t236) ∧ Aside0 (Below w.heap.size w w'))
                      case atStart => exact ⟨(x7_1), (0), (zs), H', ⟨Nat.le_refl _⟩, ⟨zr HO_7.out⟩, ⟨by (with_reducible repeat (first | apply Kd.V_alloc | apply Kd.V_drewN | apply Kd.V_drew)); exact HO238.out⟩, ⟨zh0 HB.out⟩⟩
                      case round =>
                       clear H'
                       (try clear c1); (try clear p2)
                       (try clear q2); (try clear hx2)
                       (try clear c3); (try clear c4)
                       (try clear c4b0); (try clear c5)
                       (try clear c5b0); (try clear c6)
                       (try clear c6b0); (try clear c6b1)
                       (try clear c7); (try clear c7b0)
                       (try clear c7b1); (try clear c9)
                       (try clear c10); (try clear c10b0)
                       (try clear c11); (try clear c11b0)
                       (try clear c12); (try clear c12b0)
                       (try clear c13); (try clear c13b0)
                       (try clear c13b1); (try clear c14)
                       (try clear c14b0); (try clear c14b1)
                       (try clear hx235_0); (try clear p2)
                       (try clear p235); (try clear q235)
                       obtain ⟨x7_2, x37_2, rfl, HA, HK2, HO_7, HO_35, HB⟩ := hrel
                       cases gk with
                       | zero => exact absurd HA.out (by simp [mould_Read.l1])
                       | succ k2 =>
                         have H := HA.out
                         clear HA
                         simp only [mould_Read.l1] at H
                         by_cases c18 : x37_2 < (t236.length : Int)
                         · rw [if_pos c18] at H
                           have c18b0 : decide (x37_2 < (t236.length : Int)) = true := decide_eq_true c18
                           clear c18
                           by_cases c19 : 0 ≤ x37_2
                           · rw [if_pos c19] at H
                             have c19b0 : decide (0 ≤ x37_2) = true := decide_eq_true c19
                             clear c19
                             by_cases c20 : x37_2 < (t236.length : Int)
                             · rw [if_pos c20] at H
                               have c20b0 : decide (x37_2 < (t236.length : Int)) = true := decide_eq_true c20
                               clear c20
                               by_cases c21 : 0 ≤ x27_1
                               · rw [if_pos c21] at H
                                 have c21b0 : decide (0 ≤ x27_1) = true := decide_eq_true c21
                                 clear c21
                                 by_cases c22 : x27_1 < (x7_2.length : Int)
                                 · rw [if_pos c22] at H
                                   have c22b0 : decide (x27_1 < (x7_2.length : Int)) = true := decide_eq_true c22
                                   clear c22
                                   obtain ⟨ji23, hji23⟩ : ∃ j_ : Int, (wrap64 (8 * x37_2)) = j_ := ⟨_, rfl⟩
                                   replace H : (if 0 ≤ (ji23) then (mould_Read.l1 k2 x1_1 (x7_2.set (x27_1 : Int).toNat (Go.bits .or .i64 (rd x7_2 x27_1) (shl .i64 (wrap64 (rd t236 x37_2)) (ji23)))) x27_1 (rd l0 x27_1) l0 (l0.length : Int) x27_1 t236 (t236.length : Int) (wrap64 (x37_2 + 1))) else (none)) = some (r1, r2) := by first | (rw [hji23] at H; exact H) | (simp only [hji23] at H ⊢; exact H)
                                   have hji23w : (IntKind.i64.wrap (8 * x37_2)) = ji23 := (i64_w _).trans hji23
                                   by_cases c24 : 0 ≤ (ji23)
                                   · rw [if_pos c24] at H
                                     have c24b0 := eq_true c24
                                     have c24b1 : decide (0 ≤ (ji23)) = true := decide_eq_true c24
                                     clear c24
                                     obtain ⟨ji25, hji25⟩ : ∃ j_ : Int, (shl .i64 (wrap64 (rd t236 x37_2)) (ji23)) = j_ := ⟨_, rfl⟩
                                     replace H : (mould_Read.l1 k2 x1_1 (x7_2.set (x27_1 : Int).toNat (Go.bits .or .i64 (rd x7_2 x27_1) (ji25))) x27_1 (rd l0 x27_1) l0 (l0.length : Int) x27_1 t236 (t236.length : Int) (wrap64 (x37_2 + 1))) = some (r1, r2) := by first | (rw [hji25] at H; exact H) | (simp only [hji25] at H ⊢; exact H)
                                     have hji25_ : (IntKind.i64.wrap ((wrap64 (rd t236 x37_2)) * 2 ^ min (ji23).toNat 64)) = ji25 := hji25
                                     have hji25z : (ji23) ≤ 64 → (IntKind.i64.wrap ((wrap64 (rd t236 x37_2)) * 2 ^ (ji23).toNat)) = ji25 := shl_small hji25
                                     have hji25y : (wrap64 ((wrap64 (rd t236 x37_2)) * 2 ^ min (ji23).toNat 64)) = ji25 := (i64_w _).symm.trans hji25_
                                     have hji25x : (ji23) ≤ 64 → (wrap64 ((wrap64 (rd t236 x37_2)) * 2 ^ (ji23).toNat)) = ji25 := fun h_ => (i64_w _).symm.trans (hji25z h_)
                                     obtain ⟨y241, hy241⟩ : ∃ y_ : List Int, y_ = (x7_2.set (x27_1 : Int).toNat (Go.bits .or .i64 (rd x7_2 x27_1) (ji25))) := ⟨_, rfl⟩
                                     replace H : (mould_Read.l1 k2 x1_1 y241 x27_1 (rd l0 x27_1) l0 (l0.length : Int) x27_1 t236 (t236.length : Int) (wrap64 (x37_2 + 1))) = some (r1, r2) := by first | (rw [hy241]; with_reducible exact H) | (have H2_ := (Option.bind_some _ _).symm.trans H; rw [hy241]; with_reducible exact H2_) | (have H2_ := (Option.bind_some _ _).symm.trans H; with_reducible exact H2_) | with_reducible exact H | (rw [hy241]; exact H) | exact H
                                     have Ny241 := Aside0.mk hy241
                                     clear hy241
                                     have H' := Aside0.mk H
                                     clear H
                                     have p239 : 0 ≤ (x37_2 : Int) := zd
                                     have q239 : x37_2 < (t236.length : Int) := zd
                                     obtain ⟨ad239, e239, hx239_0⟩ := Kd.at_int (Kd.V_reads' HO_35.out).2.2 x37_2 p239 q239
                                     cases e239
                                     replace p239 := eq_true p239
                                     replace q239 := eq_true q239
                                     try go_wp2
                                     replace HO_7 := Aside0.mk (Kd.R_drew HO_7.out)
                                     replace HO_35 := Aside0.mk (Kd.V_drew HO_35.out)
                                     replace HB := Aside0.mk (below_drew1 HB.out)
                                     obtain ⟨Ao28, co28, eo28⟩ := Kd.R_slice HO_7.out
                                     (first | subst eo28 | (injection eo28 with f1_ f2_ f3_; have f4_ := f1_.symm; have f5_ := f3_.symm; clear f1_ f2_ f3_; subst f4_; subst f5_))
                                     have p240 : 0 ≤ (x27_1 : Int) := zd
                                     have q240 : x27_1 < (x7_2.length : Int) := zd
                                     obtain ⟨ad240, e240, hx240_0⟩ := Kd.at_int (Kd.R_reads' HO_7.out).2.2 x27_1 p240 q240
                                     cases e240
                                     replace p240 := eq_true p240
                                     replace q240 := eq_true q240
                                     have p26 : 0 ≤ (x27_1 : Int) := zd
                                     have q26 : (x27_1 : Int) < ((x7_2.length : Int) : Int) := zd
                                     obtain ⟨go26, co26, eo26, gb26, gl26, cl26, HG26⟩ := Kd.R_form HO_7.out (by omega)
                                     (first | cases eo26 | (injection eo26 with ea_ en_ ec_; (first | subst ea_ | (injection ea_ with ea_; subst ea_)); subst ec_; clear en_))
                                     have GB26 := Aside0.mk gb26
                                     have GG26 := Aside0.mk HG26
                                     clear gb26 gl26 HG26
                                     (first | simp only [add_plain] at hx240_0 | skip)
                                     obtain ⟨hx26_0, hf26_0⟩ := Kd.R_celln 0 HO_7.out (x27_1 : Int) p26 q26
                                     replace p26 := eq_true p26
                                     replace q26 := eq_true q26
                                     have HP29 := Kd.R_putn HO_7.out (x27_1 : Int) (Go.bits .or .i64 (rd x7_2 x27_1) (ji25))
                                     rw [← Ny241.out] at HP29
                                     have HQ29 := Aside0.mk HP29
                                     clear HP29
                                     refine start_ (n := 12) (S := fun w' => w'.cell? ⟨go26, (x27_1).toNat, none⟩ = some (.int .i64 (rd x7_2 x27_1))) (ds := [11]) (mk_ 0 12) (by kernel_rfl) rfl rfl (hx240_0) (fun hHeld => ?_); refine with_tabW mould_Read.tab13 mould_Read.bits13 (fun HT_ HW_ => ?_)
                                     generalize wr.drew = w27 at HO_7 HO_35 HB GG26 HQ29 hf26_0 hx240_0 hx26_0 hHeld ⊢
                                     refine zp (i := 0) (N := some 42) (mk_ 1 12) HT_.out ?_
                                     refine zp (i := 1) (N := some 43) (mk_ 2 12) HT_.out ?_
                                     refine zp (i := 2) (N := some 44) (mk_ 3 12) HT_.out ?_
                                     refine zp (i := 4) (N := some 46) #[true, true, true, false, true, false, false, false, false, false, false, false] HT_.out ?_
                                     refine zp (i := 5) (N := some 47) #[true, true, true, false, true, true, false, false, false, false, false, false] HT_.out ?_
                                     refine zp (i := 6) (N := some 48) #[true, true, true, false, true, true, true, false, false, false, false, false] HT_.out ?_
                                     refine zp (i := 7) (N := some 49) #[true, true, true, false, true, true, true, true, false, false, false, false] HT_.out ?_
                                     refine zp (i := 8) (N := some 50) #[true, true, true, false, true, true, true, true, true, false, false, false] HT_.out ?_
                                     refine take_ (i := 3) (N := some 45) (v := ?_) (a' := ?_) (mk_ 9 12) rfl rfl (take_ofW HT_.out HW_.out (by kernel_rfl)) (fun _ _ _ h => h) (Or.inl ⟨by rfl, ?_⟩) hHeld ?_ ?_
                                     rotate_left
                                     · intro w' s0
                                       go_simp
                                       with_reducible rfl
                                     rotate_left
                                     · simp only [Act.put, zi, zi0, zi1, i64_w, i32_w]
                                       rfl
                                     refine zp (i := 9) (N := some 51) (mk_ 10 12) HT_.out ?_
                                     refine zp (i := 10) (N := some 52) (mk_ 11 12) HT_.out ?_
                                     refine last_ (i := 11) (N := none) (mk_ 12 12) rfl rfl (one_of HT_.out (by kernel_rfl)) (by decide) (fun K hK => ?_)
                                     refine skip_ (w1 := ?_) (by rfl) rfl ?_ ?_
                                     rotate_left
                                     · go_simp
                                       rfl
                                     refine hK.out _ _ ?_
                                     clear hK K
                                     refine done_ (done_of HT_.out (by kernel_rfl)) ?_
                                     try go_wp2
                                     go_roundg k2
                                     case measure => have := HK1.out; have := HK2.out; omega
                                     case rel => exact ⟨(y241), (wrap64 (x37_2 + 1)), (zs), H', ⟨by have := HK1.out; have := HK2.out; omega⟩, ⟨zr HQ29.out⟩, ⟨by (with_reducible repeat (first | apply Kd.V_alloc | apply Kd.V_drewN | apply Kd.V_drew)); exact Kd.V_mono (Kd.V_far (p := ⟨go26, (x27_1 : Int).toNat, none⟩) (Kd.V_mono HO_35.out (fun k_ hk => (⟨hk, fun e_ => hk (by rw [e_]; rfl)⟩ : _ ∧ k_ ≠ go26))) (fun _ hk => hk.2) (.int .i64 (Go.bits .or .i64 (rd x7_2 x27_1) (ji25)))) (fun _ hk => hk.1)⟩, ⟨zh1 HB.out GB26.out⟩⟩
                                   · rw [if_neg c24] at H
                                     exact absurd H (by simp)
                                 · rw [if_neg c22] at H
                                   exact absurd H (by simp)
                               · rw [if_neg c21] at H
                                 exact absurd H (by simp)
                             · rw [if_neg c20] at H
                               exact absurd H (by simp)
                           · rw [if_neg c19] at H
                             exact absurd H (by simp)
                         · rw [if_neg c18] at H
                           have c18b0 : decide (x37_2 < (t236.length : Int)) = false := decide_eq_false c18
                           clear c18
                           by_cases c30 : 0 ≤ (rd l0 x27_1)
                           · rw [if_pos c30] at H
                             have c30b0 := eq_true c30
                             have c30b1 : decide (0 ≤ (rd l0 x27_1)) = true := decide_eq_true c30
                             clear c30
                             by_cases c31 : (rd l0 x27_1) ≤ (x1_1.size : Int)
                             · rw [if_pos c31] at H
                               have c31b0 := eq_true c31
                               have c31b1 : decide ((rd l0 x27_1) ≤ (x1_1.size : Int)) = true := decide_eq_true c31
                               clear c31
                               have H' := Aside0.mk H
                               clear H
                               go_wp2
                               go_roundg k2
                               case measure => have := HK1.out; have := HK2.out; omega
                               case rel => exact ⟨(x1_1.extract ((rd l0 x27_1) : Int).toNat x1_1.size), (x7_2), (wrap64 (x27_1 + 1)), (zs), (zs), H', ⟨by have := HK1.out; have := HK2.out; omega⟩, ⟨zr HO_7.out⟩, ⟨zh0 HB.out⟩⟩
                             · rw [if_neg c31] at H
                               exact absurd H (by simp)
                           · rw [if_neg c30] at H
                             exact absurd H (by simp)
                    · rw [if_neg c14] at H
                      exact absurd H (by simp)
                  · rw [if_neg c13] at H
                    exact absurd H (by simp)
                · rw [if_neg c12] at H
                  exact absurd H (by simp)
              · rw [if_neg c11] at H
                exact absurd H (by simp)
            · rw [if_neg c10] at H
              have c10b0 : decide (x27_1 < (l0.length : Int)) = false := decide_eq_false c10
              clear c10
              simp only [Option.some.injEq, Prod.mk.injEq] at H
              obtain ⟨rfl, rfl⟩ := H
              go_wp2
              go_ret2
              exact ⟨_, ze, zr HO_7.out, zh0 HB.out⟩
       · rw [if_neg c7] at H
         exact absurd H (by simp)
     · rw [if_neg c6] at H
       exact absurd H (by simp)

/-! ### sl_Cl: function 53 -/
theorem R_isNone {α : Type} {d : Kd α} {e base n c : Nat} {ok : Nat → Prop} {w : World} {A : Option Addr} {xs : List α} {P : Program} {t te : TypeId} (ht : P.underlying t = some (.slice te)) (h : d.R e w base ok (.slice A n c) xs) (hn : (0 < xs.length) = True) :
 ∀ W : World, (binOp .neq t (.slice A n c) (.slice none 0 0)).run P W = .ok (.bool true) W := by
 obtain ⟨ad, c', e⟩ := Kd.R_slice1 h (of_eq_true hn)
 injection e with e1 _ _
 subst e1
 intro W
 first | rw [run_neq_slice_nil (h := ht)] | rw [Go.run_neq_slice_nil (h := ht)] | (simp [binOp, ht]; done)
 rfl
def sl_Cl.f (l0 : List Int) : Option (List Int) := if l0.length ≤ 17592186044416 then (some l0) else (none)
set_option maxHeartbeats 4000000 in
set_option maxRecDepth 100000 in
theorem sl_Cl.calls (A0 : Option Addr) (c0 : Nat) (l0 : List Int) (r : List Int) (w : World) (hr0 : Kd.C (Kd.int .i64) w A0 l0.length l0) (hc0 : l0.length ≤ c0) (h : sl_Cl.f l0 = some r) :
 Calls Try.prog 53 #[.slice A0 l0.length c0] w fun e w' => ∃ v0_ : Value, e = .returned (v0_) ∧ Kd.R (Kd.int .i64) 3 w' w.heap.size (fun _ => True) v0_ r ∧ Below w.heap.size w w' := by
 unfold sl_Cl.f at h
 split at h
 · rename_i hl
   obtain rfl := Option.some.inj h
   clear h
   cases A0 with
   | none =>
     have hz : l0 = [] := by
      cases l0 with
      | nil => rfl
      | cons x l => obtain ⟨ad, e, _⟩ := hr0.2.2 (by simp); cases e
     subst hz
     clear hr0 hc0 hl
     simp only [List.length_nil]
     have he : ∀ W : World, (binOp .eql 22 (.slice none 0 c0) (.slice none 0 0)).run Try.prog W = .ok (.bool true) W := fun W => by rw [Go.run_eql_slice_nil (h := Try.underlying22)]; rfl
     go_enter Try.func53, Try.ntmps53
     go_wp2
     go_ret
     exact ⟨_, rfl, Kd.R_nil _ _ _ _ _, Below.refl _ _⟩
   | some ad =>
     have he : ∀ W : World, (binOp .eql 22 (.slice (some ad) l0.length c0) (.slice none 0 0)).run Try.prog W = .ok (.bool false) W := fun W => by rw [Go.run_eql_slice_nil (h := Try.underlying22)]; rfl
     have HR := Aside0.mk hr0
     clear hr0
     go_enter Try.func53, Try.ntmps53
     go_wp2_with (first | ((with_reducible refine gate_dst (N := 5) rfl ?_); refine Kd.R_lit (Kd.int .i64) _ 3 ?hg (N := 5) ?hd (xs := ([] : List Int)) (inner := []) (ok := fun _ => True) (okp := fun _ => True) ?hr ?hp (fun _ hk => hk) trivial (Below.refl _ _) (Nat.le_refl _) (by simp) ?_; (case hd => rfl); (case hg => rfl); (case hr => first | (go_simp; done) | (go_simp; rfl)); (case hp => exact (Reps.none _ _)); intro v5 w5 ho5 hb5 hg_ hnew_; clear hg_ hnew_) | ((with_reducible refine gate_builtin (b := .append) (xs := #[.tmp 5, .tmp 6]) rfl ?_); at_builtin; refine Kd.R_append_row (Value.int .i64) (0 : Int) (h1 := fun _ => rfl) (w0 := w) w.heap.size rfl (.tmp 5) (.tmp 6) 22 3 (.int .i64 0) 8 rfl Try.underlying22 info3 rfl (by decide) v5 [] l0 (some ad) l0.length c0 (fun _ => True) rfl rfl (fun _ _ => trivial) ho5 (Kd.C_below HR.out hb5) hb5 hb5.size (by rw [List.length_nil]; omega) ?_; intro v6 w6 ho6 hb6 hg_ hat_; clear hg_ hat_ ho5))
     go_ret
     exact ⟨_, rfl, by rw [List.nil_append] at ho6; exact ho6, hb6⟩
 · cases h
end Go.Proofs.Ytgigoogekimgkaa.GCrd
