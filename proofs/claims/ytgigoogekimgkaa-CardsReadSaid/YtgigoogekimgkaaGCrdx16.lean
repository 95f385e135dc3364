/- printed for this claim by gprint.py, a program of this session, that drives the kit's printer. -/
import Derived.Test.YtgigoogekimgkaaGCrdx0
import Derived.Test.YtgigoogekimgkaaZ
import Derived.Test.YtgigoogekimgkaaGCrdx11
import Derived.Test.YtgigoogekimgkaaGCrdx14
import Derived.Test.YtgigoogekimgkaaGCrdx15
namespace Go.Proofs.Ytgigoogekimgkaa.GCrd
open Go.RowKit Go.Proofs.YtgigoogekimgkaaW.PrintWords Go.Proofs.YtgigoogekimgkaaW.PrintLast Go.Proofs.YtgigoogekimgkaaW.PrintMore
attribute [local go_sem] max2_int min2_int max_two min_two max_three min_three max_four min_four   -- for this text's walks alone
set_option linter.unusedVariables false
set_option linter.unusedSimpArgs false

/-! ### r9_Write: function 10 -/
mutual
def r9_Write.j0 : Nat → ByteArray → Int → Int → Int → Int → List Int → Int → Int → List (S48) → Int → Option (ByteArray × Int)
 | 0, _, _, _, _, _, _, _, _, _, _ => none
 | k + 1, x4, x366000, x366001, x366002, x366003, x366004, x366005, x366006, x366007, x366008 => if x366000 = 1 then ((r9_bytes.f k 2 x366004).bind fun t379 => ((r9_bytes.f k 2 (([x366005, x366006] : List Int))).bind fun t383 => (if t379.size + t383.size ≤ 9223372036854775807 then (if x4.size + (t379 ++ t383).size ≤ 9223372036854775807 then (r9_Write.j1 k (x4 ++ (t379 ++ t383)) x366000 x366001 x366002 x366003 x366004 x366005 x366006 x366007 x366008) else (none)) else (none)))) else (r9_Write.j1 k x4 x366000 x366001 x366002 x366003 x366004 x366005 x366006 x366007 x366008)
def r9_Write.j1 : Nat → ByteArray → Int → Int → Int → Int → List Int → Int → Int → List (S48) → Int → Option (ByteArray × Int)
 | 0, _, _, _, _, _, _, _, _, _, _ => none
 | k + 1, x4, x366000, x366001, x366002, x366003, x366004, x366005, x366006, x366007, x366008 => if x366000 = 2 then ((r9_bytes.f k 1 (([(x366007.length : Int)] : List Int))).bind fun t387 => (if x4.size + t387.size ≤ 9223372036854775807 then (r9_Write.l0 k (x4 ++ t387) 0 x366000 x366001 x366002 x366003 x366004 x366005 x366006 x366007 x366008) else (none))) else ((r1_Zeros.f (wrap64 (32 - (x4.size : Int)))).bind fun t403 => (if x4.size + t403.size ≤ 9223372036854775807 then (some (x4 ++ t403, 0)) else (none)))
def r9_Write.l0 : Nat → ByteArray → Int → Int → Int → Int → Int → List Int → Int → Int → List (S48) → Int → Option (ByteArray × Int)
 | 0, _, _, _, _, _, _, _, _, _, _, _ => none
 | k + 1, x4, x5, x366000, x366001, x366002, x366003, x366004, x366005, x366006, x366007, x366008 => if x5 < 3 then (if x5 < (x366007.length : Int) then (if 0 ≤ x5 then ((r9_bytes.f k 2 (([(rd_T48 x366007 x5).f0, (rd_T48 x366007 x5).f1, (rd_T48 x366007 x5).f2] : List Int))).bind fun t393 => (if x4.size + t393.size ≤ 9223372036854775807 then (r9_Write.l0 k (x4 ++ t393) (wrap64 (x5 + 1)) x366000 x366001 x366002 x366003 x366004 x366005 x366006 x366007 x366008) else (none))) else (none)) else ((r9_bytes.f k 2 (([0, 0, 0] : List Int))).bind fun t397 => (if x4.size + t397.size ≤ 9223372036854775807 then (r9_Write.l0 k (x4 ++ t397) (wrap64 (x5 + 1)) x366000 x366001 x366002 x366003 x366004 x366005 x366006 x366007 x366008) else (none)))) else ((r9_bytes.f k 2 (([x366008] : List Int))).bind fun t401 => (if x4.size + t401.size ≤ 9223372036854775807 then ((r1_Zeros.f (wrap64 (32 - ((x4 ++ t401).size : Int)))).bind fun t402 => (if (x4 ++ t401).size + t402.size ≤ 9223372036854775807 then (some ((x4 ++ t401) ++ t402, 0)) else (none))) else (none)))
end
def r9_Write.f (k : Nat) (a0_0 : Int) (a0_1 : Int) (a0_2 : Int) (a0_3 : Int) (l0_4 : List Int) (a0_5 : Int) (a0_6 : Int) (l0_7 : List (S48)) (a0_8 : Int) : Option (ByteArray × Int) := (r9_Right.f k a0_0 a0_1 a0_2 a0_3 l0_4 a0_5 a0_6 l0_7 a0_8).bind fun t366 => (if t366 = true then (if a0_0 = 0 then (r9_Write.j0 k (⟨#[]⟩ : ByteArray) a0_0 a0_1 a0_2 a0_3 l0_4 a0_5 a0_6 l0_7 a0_8) else ((r9_bytes.f k 1 (([a0_0, a0_1] : List Int))).bind fun t370 => ((r9_bytes.f k 2 (([a0_2] : List Int))).bind fun t374 => (if t370.size + t374.size ≤ 9223372036854775807 then ((r9_bytes.f k 4 (([a0_3] : List Int))).bind fun t378 => (if (t370 ++ t374).size + t378.size ≤ 9223372036854775807 then (r9_Write.j0 k ((t370 ++ t374) ++ t378) a0_0 a0_1 a0_2 a0_3 l0_4 a0_5 a0_6 l0_7 a0_8) else (none))) else (none))))) else (some ((⟨#[]⟩ : ByteArray), 1)))
theorem r9_Write.mono_l : ∀ k, (∀ y0 y1 y2 y3 y4 y5 y6 y7 y8 y9, LeO (r9_Write.j0 k y0 y1 y2 y3 y4 y5 y6 y7 y8 y9) (r9_Write.j0 (k + 1) y0 y1 y2 y3 y4 y5 y6 y7 y8 y9)) ∧ (∀ y0 y1 y2 y3 y4 y5 y6 y7 y8 y9, LeO (r9_Write.j1 k y0 y1 y2 y3 y4 y5 y6 y7 y8 y9) (r9_Write.j1 (k + 1) y0 y1 y2 y3 y4 y5 y6 y7 y8 y9)) ∧ (∀ y0 y1 y2 y3 y4 y5 y6 y7 y8 y9 y10, LeO (r9_Write.l0 k y0 y1 y2 y3 y4 y5 y6 y7 y8 y9 y10) (r9_Write.l0 (k + 1) y0 y1 y2 y3 y4 y5 y6 y7 y8 y9 y10))
 | 0 => ⟨fun _ _ _ _ _ _ _ _ _ _ r h => by simp [r9_Write.j0] at h, fun _ _ _ _ _ _ _ _ _ _ r h => by simp [r9_Write.j1] at h, fun _ _ _ _ _ _ _ _ _ _ _ r h => by simp [r9_Write.l0] at h⟩
 | k + 1 => by
   obtain ⟨ih0, ih1, ih2⟩ := r9_Write.mono_l k
   refine ⟨?_, ?_, ?_⟩
   · intro y0 y1 y2 y3 y4 y5 y6 y7 y8 y9
     unfold r9_Write.j0
     repeat' first
     | (with_reducible exact ih0 _ _ _ _ _ _ _ _ _ _)
     | (with_reducible exact ih1 _ _ _ _ _ _ _ _ _ _)
     | (with_reducible exact ih2 _ _ _ _ _ _ _ _ _ _ _)
     | (with_reducible exact r9_Right.mono _ _ _ _ _ _ _ _ _ _)
     | (with_reducible exact r9_bytes.mono _ _ _)
     | (with_reducible exact LeO.refl _)
     | (with_reducible exact LeO.none _)
     | (with_reducible refine LeO.ite ?_ ?_)
     | (with_reducible refine LeO.bind ?_ (fun _ => ?_))
     | exact ih0 _ _ _ _ _ _ _ _ _ _
     | exact ih1 _ _ _ _ _ _ _ _ _ _
     | exact ih2 _ _ _ _ _ _ _ _ _ _ _
     | exact r9_Right.mono _ _ _ _ _ _ _ _ _ _
     | exact r9_bytes.mono _ _ _
     | exact LeO.none _
     | refine LeO.ite ?_ ?_
     | refine LeO.bind ?_ (fun _ => ?_)
   · intro y0 y1 y2 y3 y4 y5 y6 y7 y8 y9
     unfold r9_Write.j1
     repeat' first
     | (with_reducible exact ih0 _ _ _ _ _ _ _ _ _ _)
     | (with_reducible exact ih1 _ _ _ _ _ _ _ _ _ _)
     | (with_reducible exact ih2 _ _ _ _ _ _ _ _ _ _ _)
     | (with_reducible exact r9_Right.mono _ _ _ _ _ _ _ _ _ _)
     | (with_reducible exact r9_bytes.mono _ _ _)
     | (with_reducible exact LeO.refl _)
     | (with_reducible exact LeO.none _)
     | (with_reducible refine LeO.ite ?_ ?_)
     | (with_reducible refine LeO.bind ?_ (fun _ => ?_))
     | exact ih0 _ _ _ _ _ _ _ _ _ _
     | exact ih1 _ _ _ _ _ _ _ _ _ _
     | exact ih2 _ _ _ _ _ _ _ _ _ _ _
     | exact r9_Right.mono _ _ _ _ _ _ _ _ _ _
     | exact r9_bytes.mono _ _ _
     | exact LeO.none _
     | refine LeO.ite ?_ ?_
     | refine LeO.bind ?_ (fun _ => ?_)
   · intro y0 y1 y2 y3 y4 y5 y6 y7 y8 y9 y10
     unfold r9_Write.l0
     repeat' first
     | (with_reducible exact ih0 _ _ _ _ _ _ _ _ _ _)
     | (with_reducible exact ih1 _ _ _ _ _ _ _ _ _ _)
     | (with_reducible exact ih2 _ _ _ _ _ _ _ _ _ _ _)
     | (with_reducible exact r9_Right.mono _ _ _ _ _ _ _ _ _ _)
     | (with_reducible exact r9_bytes.mono _ _ _)
     | (with_reducible exact LeO.refl _)
     | (with_reducible exact LeO.none _)
     | (with_reducible refine LeO.ite ?_ ?_)
     | (with_reducible refine LeO.bind ?_ (fun _ => ?_))
     | exact ih0 _ _ _ _ _ _ _ _ _ _
     | exact ih1 _ _ _ _ _ _ _ _ _ _
     | exact ih2 _ _ _ _ _ _ _ _ _ _ _
     | exact r9_Right.mono _ _ _ _ _ _ _ _ _ _
     | exact r9_bytes.mono _ _ _
     | exact LeO.none _
     | refine LeO.ite ?_ ?_
     | refine LeO.bind ?_ (fun _ => ?_)
theorem r9_Write.mono : ∀ a0 a1 a2 a3 a4 a5 a6 a7 a8 k, LeO (r9_Write.f k a0 a1 a2 a3 a4 a5 a6 a7 a8) (r9_Write.f (k + 1) a0 a1 a2 a3 a4 a5 a6 a7 a8) := by
 intro a0 a1 a2 a3 a4 a5 a6 a7 a8 k
 obtain ⟨ih0, ih1, ih2⟩ := r9_Write.mono_l k
 unfold r9_Write.f
 repeat' first
  | (with_reducible exact ih0 _ _ _ _ _ _ _ _ _ _)
  | (with_reducible exact ih1 _ _ _ _ _ _ _ _ _ _)
  | (with_reducible exact ih2 _ _ _ _ _ _ _ _ _ _ _)
  | (with_reducible exact r9_Right.mono _ _ _ _ _ _ _ _ _ _)
  | (with_reducible exact r9_bytes.mono _ _ _)
  | (with_reducible exact LeO.refl _)
  | (with_reducible exact LeO.none _)
  | (with_reducible refine LeO.ite ?_ ?_)
  | (with_reducible refine LeO.bind ?_ (fun _ => ?_))
  | exact ih0 _ _ _ _ _ _ _ _ _ _
  | exact ih1 _ _ _ _ _ _ _ _ _ _
  | exact ih2 _ _ _ _ _ _ _ _ _ _ _
  | exact r9_Right.mono _ _ _ _ _ _ _ _ _ _
  | exact r9_bytes.mono _ _ _
  | exact LeO.none _
  | refine LeO.ite ?_ ?_
  | refine LeO.bind ?_ (fun _ => ?_)
def r9_Write.T5 : Bool × List (List Nat × List Nat) := (true, [([], []), ([0], [0]), ([], []), ([2], [2]), ([1, 3], [1, 3]), ([4], [4]), ([], []), ([6], [6]), ([7], [7]), ([8, 5], [8]), ([5, 9], [5, 9]), ([], []), ([11], [11]), ([12], [12]), ([13, 9], [13]), ([10, 14], [10, 14]), ([15, 14, 0, 1, 2, 3, 4, 5, 6, 7, 8, 9, 10, 11, 12, 13, 14, 15], [15])])
def r9_Write.B5 : List Nat := [0, 1, 0, 4, 15, 31, 0, 64, 192, 511, 1023, 0, 2048, 6144, 15359, 32767, 65535]
theorem r9_Write.tab5 : rtab .any (opsOf Try.f10 5) = r9_Write.T5 := by kernel_rfl
theorem r9_Write.bits5 : waitsOk r9_Write.T5.2 r9_Write.B5 = true := by kernel_rfl
def r9_Write.T7 : Bool × List (List Nat × List Nat) := (true, [([], []), ([], []), ([1], [1]), ([2], [2]), ([], []), ([4], [4]), ([], []), ([6], [6]), ([5, 7], [5, 7]), ([8, 3], [8]), ([3, 9], [3, 9]), ([0, 10], [0, 10]), ([11, 9, 0, 1, 2, 3, 4, 5, 6, 7, 8, 9, 10, 11], [0, 11])])
def r9_Write.B7 : List Nat := [0, 0, 2, 6, 0, 16, 0, 64, 240, 510, 1022, 2047, 4095]
theorem r9_Write.tab7 : rtab .any (opsOf Try.f10 7) = r9_Write.T7 := by kernel_rfl
theorem r9_Write.bits7 : waitsOk r9_Write.T7.2 r9_Write.B7 = true := by kernel_rfl
set_option maxHeartbeats 8000000 in
set_option maxRecDepth 100000 in
theorem r9_Write.calls (k : Nat) (a0_0 : Int) (a0_1 : Int) (a0_2 : Int) (a0_3 : Int) (A0_4 : Option Addr) (c0_4 : Nat) (l0_4 : List Int) (a0_5 : Int) (a0_6 : Int) (A0_7 : Option Addr) (c0_7 : Nat) (l0_7 : List (S48)) (a0_8 : Int) (r1 : ByteArray) (r2 : Int) (w : World) (hr0_4 : Kd.C (Kd.int .i64) w A0_4 l0_4.length l0_4) (hc0_4 : l0_4.length ≤ c0_4) (hr0_7 : Kd.C k48 w A0_7 l0_7.length l0_7) (hc0_7 : l0_7.length ≤ c0_7) (h : r9_Write.f k a0_0 a0_1 a0_2 a0_3 l0_4 a0_5 a0_6 l0_7 a0_8 = some (r1, r2)) :
 Calls Try.prog 10 #[.agg #[.int .i64 a0_0, .int .i64 a0_1, .int .i64 a0_2, .int .i64 a0_3, .slice A0_4 l0_4.length c0_4, .int .i64 a0_5, .int .i64 a0_6, .slice A0_7 l0_7.length c0_7, .int .i64 a0_8]] w fun e w' => e = .returned (.tuple #[.string r1, .int .i64 r2]) ∧ Below w.heap.size w w' := by
 have hu25 := Try.underlying25
 have hu48 := Try.underlying48
 have HR0_4 := Aside0.mk hr0_4
 have HC0_4 := Aside0.mk hc0_4
 clear hr0_4 hc0_4
 have HR0_7 := Aside0.mk hr0_7
 have HC0_7 := Aside0.mk hc0_7
 clear hr0_7 hc0_7
 have HB := Aside0.mk (Below.refl w.heap.size w)
 have H : ((r9_Right.f k a0_0 a0_1 a0_2 a0_3 l0_4 a0_5 a0_6 l0_7 a0_8).bind fun t366 => (if t366 = true then (if a0_0 = 0 then (r9_Write.j0 k (⟨#[]⟩ : ByteArray) a0_0 a0_1 a0_2 a0_3 l0_4 a0_5 a0_6 l0_7 a0_8) else ((r9_bytes.f k 1 (([a0_0, a0_1] : List Int))).bind fun t370 => ((r9_bytes.f k 2 (([a0_2] : List Int))).bind fun t374 => (if t370.size + t374.size ≤ 9223372036854775807 then ((r9_bytes.f k 4 (([a0_3] : List Int))).bind fun t378 => (if (t370 ++ t374).size + t378.size ≤ 9223372036854775807 then (r9_Write.j0 k ((t370 ++ t374) ++ t378) a0_0 a0_1 a0_2 a0_3 l0_4 a0_5 a0_6 l0_7 a0_8) else (none))) else (none))))) else (some ((⟨#[]⟩ : ByteArray), 1)))) = some (r1, r2) := h
 clear h
 replace H := Option.bind_eq_some_iff.mp H
 obtain ⟨t366, A20, H⟩ := H
 replace H : (if t366 = true then (if a0_0 = 0 then (r9_Write.j0 k (⟨#[]⟩ : ByteArray) a0_0 a0_1 a0_2 a0_3 l0_4 a0_5 a0_6 l0_7 a0_8) else ((r9_bytes.f k 1 (([a0_0, a0_1] : List Int))).bind fun t370 => ((r9_bytes.f k 2 (([a0_2] : List Int))).bind fun t374 => (if t370.size + t374.size ≤ 9223372036854775807 then ((r9_bytes.f k 4 (([a0_3] : List Int))).bind fun t378 => (if (t370 ++ t374).size + t378.size ≤ 9223372036854775807 then (r9_Write.j0 k ((t370 ++ t374) ++ t378) a0_0 a0_1 a0_2 a0_3 l0_4 a0_5 a0_6 l0_7 a0_8) else (none))) else (none))))) else (some ((⟨#[]⟩ : ByteArray), 1))) = some (r1, r2) := H
 have A2 := Aside0.mk A20
 clear A20
 by_cases c3 : t366 = true
 · subst c3
   have H1 : (if a0_0 = 0 then (r9_Write.j0 k (⟨#[]⟩ : ByteArray) a0_0 a0_1 a0_2 a0_3 l0_4 a0_5 a0_6 l0_7 a0_8) else ((r9_bytes.f k 1 (([a0_0, a0_1] : List Int))).bind fun t370 => ((r9_bytes.f k 2 (([a0_2] : List Int))).bind fun t374 => (if t370.size + t374.size ≤ 9223372036854775807 then ((r9_bytes.f k 4 (([a0_3] : List Int))).bind fun t378 => (if (t370 ++ t374).size + t378.size ≤ 9223372036854775807 then (r9_Write.j0 k ((t370 ++ t374) ++ t378) a0_0 a0_1 a0_2 a0_3 l0_4 a0_5 a0_6 l0_7 a0_8) else (none))) else (none))))) = some (r1, r2) := by rw [if_pos rfl] at H; exact H
   clear H
   have H := H1
   clear H1
   have HC4 := Aside0.mk H
   clear H
   go_enter Try.func10, Try.ntmps10
   go_upto_if 12 with (first | ((with_reducible refine gate_dst (N := 1) rfl ?_); refine zbx (N := 1) (cs := #[.int .i64 a0_0, .int .i64 a0_1, .int .i64 a0_2, .int .i64 a0_3, .slice A0_4 l0_4.length c0_4, .int .i64 a0_5, .int .i64 a0_6, .slice A0_7 l0_7.length c0_7, .int .i64 a0_8]) (t := 25) ?_; intro gb365 hg w5 hbox hb; have BK365 := Aside0.mk (hbox); have GW365 := Aside0.mk ((by rw [hg]; exact (below_size (zh0 HB.out)) : w.heap.size ≤ gb365)); have GE365 := GW365; replace HB := Aside0.mk (below_step (zh0 HB.out) hb); clear hb hbox hg; obtain ⟨hcz6_0, hcz6_1, hcz6_2, hcz6_3, hcz6_4, hcz6_5, hcz6_6, hcz6_7, hcz6_8⟩ := cells9 BK365.out; obtain ⟨hfz6_0, hfz6_1, hfz6_2, hfz6_3, hfz6_4, hfz6_5, hfz6_6, hfz6_7, hfz6_8⟩ := frozen9 BK365.out) | ((with_reducible refine gate_callee (f := 12) rfl ?_); refine zgl (some 8) Try.func12 #[.agg #[.int .i64 a0_0, .int .i64 a0_1, .int .i64 a0_2, .int .i64 a0_3, .slice A0_4 l0_4.length c0_4, .int .i64 a0_5, .int .i64 a0_6, .slice A0_7 l0_7.length c0_7, .int .i64 a0_8]] ?_; (with_reducible refine (r9_Right.calls k a0_0 a0_1 a0_2 a0_3 _ _ l0_4 a0_5 a0_6 _ _ l0_7 a0_8 true _ ?side1 ?side2 ?side3 ?side4 A2.out).mono ?_); (case side1 => exact zc (Kd.C_below HR0_4.out HB.out)); (case side2 => exact HC0_4.out); (case side3 => exact zc (Kd.C_below HR0_7.out HB.out)); (case side4 => exact HC0_7.out); rintro e w7 ⟨rfl, hb⟩; refine ⟨_, rfl, ?_⟩; replace BK365 := Aside0.mk (zB BK365.out hb); replace HB := Aside0.mk (below_step (zh1 HB.out GE365.out) hb); (try clear hb); (try clear hb2); (try clear hk); (try clear hi); obtain ⟨hcz8_0, hcz8_1, hcz8_2, hcz8_3, hcz8_4, hcz8_5, hcz8_6, hcz8_7, hcz8_8⟩ := cells9 BK365.out; obtain ⟨hfz8_0, hfz8_1, hfz8_2, hfz8_3, hfz8_4, hfz8_5, hfz8_6, hfz8_7, hfz8_8⟩ := frozen9 BK365.out))
   (try simp only [Act.put, List.setIfInBounds_toArray, List.set_cons_zero, List.set_cons_succ])
   go_cut [4] (fun v4 wc => ∃ (kq : Nat) (x4_3 : ByteArray), v4 = .string x4_3 ∧ Aside0 (r9_Write.j0 kq x4_3 a0_0 a0_1 a0_2 a0_3 l0_4 a0_5 a0_6 l0_7 a0_8 = some (r1, r2)) ∧ Aside0 (kq ≤ k) ∧ Aside0 (wc.heap[gb365]? = some (.cells #[.int .i64 a0_0, .int .i64 a0_1, .int .i64 a0_2, .int .i64 a0_3, (.slice A0_4 l0_4.length c0_4), .int .i64 a0_5, .int .i64 a0_6, (.slice A0_7 l0_7.length c0_7), .int .i64 a0_8] 25 (0, 0))) ∧ Aside0 (Below w.heap.size w wc))
   case first =>
    have H := HC4.out
    clear HC4
    by_cases c9 : a0_0 = 0
    · rw [if_pos c9] at H
      have c9b0 : (a0_0 == 0) = true := beq_iff_eq.mpr c9
      have c9b1 : (a0_0 != 0) = false := bne_eq_false_iff_eq.mpr c9
      clear c9
      (first | rw [c9b0] | (simp only [i64_w, i32_w]; rw [c9b0]) | skip)
      have H' := Aside0.mk H
      clear H
      go_wp2
      go_meet
      case rel => exact ⟨_, ((⟨#[]⟩ : ByteArray)), (zs), H', ⟨zl⟩, ⟨zb BK365.out⟩, ⟨zh1 HB.out GE365.out⟩⟩
    · rw [if_neg c9] at H
      have c9b0 : (a0_0 == 0) = false := beq_eq_false_iff_ne.mpr c9
      have c9b1 : (a0_0 != 0) = true := bne_iff_ne.mpr c9
      (first | rw [c9b0] | (simp only [i64_w, i32_w]; rw [c9b0]) | skip)
      obtain ⟨y367, hy367⟩ : ∃ y_ : List Int, y_ = (([a0_0, a0_1] : List Int)) := ⟨_, rfl⟩
      replace H : ((r9_bytes.f k 1 y367).bind fun t370 => ((r9_bytes.f k 2 (([a0_2] : List Int))).bind fun t374 => (if t370.size + t374.size ≤ 9223372036854775807 then ((r9_bytes.f k 4 (([a0_3] : List Int))).bind fun t378 => (if (t370 ++ t374).size + t378.size ≤ 9223372036854775807 then (r9_Write.j0 k ((t370 ++ t374) ++ t378) a0_0 a0_1 a0_2 a0_3 l0_4 a0_5 a0_6 l0_7 a0_8) else (none))) else (none)))) = some (r1, r2) := by first | (rw [hy367]; with_reducible exact H) | (have H2_ := (Option.bind_some _ _).symm.trans H; rw [hy367]; with_reducible exact H2_) | (have H2_ := (Option.bind_some _ _).symm.trans H; with_reducible exact H2_) | with_reducible exact H | (rw [hy367]; exact H) | exact H
      have Ny367 := Aside0.mk hy367
      clear hy367
      replace H := Option.bind_eq_some_iff.mp H
      obtain ⟨t370, A100, H⟩ := H
      replace H : ((r9_bytes.f k 2 (([a0_2] : List Int))).bind fun t374 => (if t370.size + t374.size ≤ 9223372036854775807 then ((r9_bytes.f k 4 (([a0_3] : List Int))).bind fun t378 => (if (t370 ++ t374).size + t378.size ≤ 9223372036854775807 then (r9_Write.j0 k ((t370 ++ t374) ++ t378) a0_0 a0_1 a0_2 a0_3 l0_4 a0_5 a0_6 l0_7 a0_8) else (none))) else (none))) = some (r1, r2) := H
      have A10 := Aside0.mk A100
      clear A100
      obtain ⟨y371, hy371⟩ : ∃ y_ : List Int, y_ = (([a0_2] : List Int)) := ⟨_, rfl⟩
      replace H : ((r9_bytes.f k 2 y371).bind fun t374 => (if t370.size + t374.size ≤ 9223372036854775807 then ((r9_bytes.f k 4 (([a0_3] : List Int))).bind fun t378 => (if (t370 ++ t374).size + t378.size ≤ 9223372036854775807 then (r9_Write.j0 k ((t370 ++ t374) ++ t378) a0_0 a0_1 a0_2 a0_3 l0_4 a0_5 a0_6 l0_7 a0_8) else (none))) else (none))) = some (r1, r2) := by first | (rw [hy371]; with_reducible exact H) | (have H2_ := (Option.bind_some _ _).symm.trans H; rw [hy371]; with_reducible exact H2_) | (have H2_ := (Option.bind_some _ _).symm.trans H; with_reducible exact H2_) | with_reducible exact H | (rw [hy371]; exact H) | exact H
      have Ny371 := Aside0.mk hy371
      clear hy371
      replace H := Option.bind_eq_some_iff.mp H
      obtain ⟨t374, A110, H⟩ := H
      replace H : (if t370.size + t374.size ≤ 9223372036854775807 then ((r9_bytes.f k 4 (([a0_3] : List Int))).bind fun t378 => (if (t370 ++ t374).size + t378.size ≤ 9223372036854775807 then (r9_Write.j0 k ((t370 ++ t374) ++ t378) a0_0 a0_1 a0_2 a0_3 l0_4 a0_5 a0_6 l0_7 a0_8) else (none))) else (none)) = some (r1, r2) := H
      have A11 := Aside0.mk A110
      clear A110
      by_cases c12 : t370.size + t374.size ≤ 9223372036854775807
      · rw [if_pos c12] at H
        have c12b0 := eq_true c12
        have c12b1 : decide (t370.size + t374.size ≤ 9223372036854775807) = true := decide_eq_true c12
        try have c12b2 : (9223372036854775807 < t370.size + t374.size) = False := eq_false (Nat.not_lt.2 c12)
        obtain ⟨y375, hy375⟩ : ∃ y_ : List Int, y_ = (([a0_3] : List Int)) := ⟨_, rfl⟩
        replace H : ((r9_bytes.f k 4 y375).bind fun t378 => (if (t370 ++ t374).size + t378.size ≤ 9223372036854775807 then (r9_Write.j0 k ((t370 ++ t374) ++ t378) a0_0 a0_1 a0_2 a0_3 l0_4 a0_5 a0_6 l0_7 a0_8) else (none))) = some (r1, r2) := by first | (rw [hy375]; with_reducible exact H) | (have H2_ := (Option.bind_some _ _).symm.trans H; rw [hy375]; with_reducible exact H2_) | (have H2_ := (Option.bind_some _ _).symm.trans H; with_reducible exact H2_) | with_reducible exact H | (rw [hy375]; exact H) | exact H
        have Ny375 := Aside0.mk hy375
        clear hy375
        replace H := Option.bind_eq_some_iff.mp H
        obtain ⟨t378, A130, H⟩ := H
        replace H : (if (t370 ++ t374).size + t378.size ≤ 9223372036854775807 then (r9_Write.j0 k ((t370 ++ t374) ++ t378) a0_0 a0_1 a0_2 a0_3 l0_4 a0_5 a0_6 l0_7 a0_8) else (none)) = some (r1, r2) := H
        have A13 := Aside0.mk A130
        clear A130
        by_cases c14 : (t370 ++ t374).size + t378.size ≤ 9223372036854775807
        · rw [if_pos c14] at H
          have c14b0 := eq_true c14
          have c14b1 : decide ((t370 ++ t374).size + t378.size ≤ 9223372036854775807) = true := decide_eq_true c14
          have c14n := c14
          simp only [ByteArray.size_append] at c14n
          have c14b3 := eq_true c14n
          have c14b4 := decide_eq_true c14n
          have c14b5 := eq_false (Nat.not_lt.2 c14n)
          clear c14n
          try have c14b2 : (9223372036854775807 < (t370 ++ t374).size + t378.size) = False := eq_false (Nat.not_lt.2 c14)
          have H' := Aside0.mk H
          clear H
          try go_wp2
          replace BK365 := Aside0.mk (blk_drew BK365.out)
          replace HB := Aside0.mk (below_drew1 HB.out)
          refine start_ (n := 17) (S := fun w' => True) (ds := []) (mk_ 0 17) (by kernel_rfl) rfl rfl trivial (fun hHeld => ?_); refine with_tabW r9_Write.tab5 r9_Write.bits5 (fun HT_ HW_ => ?_)
          generalize w7.drew = w15 at BK365 HB hHeld ⊢
          refine zp (i := 0) (N := some 13) (mk_ 1 17) HT_.out ?_
          refine zp (i := 2) (N := some 15) #[true, false, true, false, false, false, false, false, false, false, false, false, false, false, false, false, false] HT_.out ?_
          refine zp (i := 6) (N := some 19) #[true, false, true, false, false, false, true, false, false, false, false, false, false, false, false, false, false] HT_.out ?_
          refine zp (i := 11) (N := some 24) #[true, false, true, false, false, false, true, false, false, false, false, true, false, false, false, false, false] HT_.out ?_
          refine inv_at [1, 3, 4, 5, 7, 8, 9, 10, 12, 13, 14, 15, 16] (fun a0_ b a w' => ∃ (v368 : Value) (v372 : Value) (v376 : Value), a = putSel a0_ b [(1, 14, .int .i64 a0_0), (3, 16, .int .i64 a0_1), (4, 17, v368), (5, 18, .string t370), (7, 20, .int .i64 a0_2), (8, 21, v372), (9, 22, .string t374), (10, 23, .string (t370 ++ t374)), (12, 25, .int .i64 a0_3), (13, 26, v376), (14, 27, .string t378), (15, 28, .string ((t370 ++ t374) ++ t378)), (16, 4, .string ((t370 ++ t374) ++ t378))] ∧ (w'.heap[gb365]? = some (.cells #[.int .i64 a0_0, .int .i64 a0_1, .int .i64 a0_2, .int .i64 a0_3, .slice A0_4 l0_4.length c0_4, .int .i64 a0_5, .int .i64 a0_6, .slice A0_7 l0_7.length c0_7, .int .i64 a0_8] 25 (0, 0))) ∧ (Below w.heap.size w w') ∧ (b 4 = true → Kd.R (Kd.int .i64) 3 w' w.heap.size (fun _ => True) v368 y367) ∧ (b 8 = true → Kd.R (Kd.int .i64) 3 w' w.heap.size (fun _ => True) v372 y371) ∧ (b 13 = true → Kd.R (Kd.int .i64) 3 w' w.heap.size (fun _ => True) v376 y375)) HT_.out HW_.out (by kernel_rfl) (by kernel_rfl) ?_ ?_ ?_
          · exact ⟨.bool false, .bool false, .bool false, by simp only [putSel, Bool.false_eq_true, if_false], BK365.out, HB.out, fun h_ => absurd h_ (by decide), fun h_ => absurd h_ (by decide), fun h_ => absurd h_ (by decide)⟩
          · skip
            clear BK365 HB
            refine steps_cons ?_ ?_
            · rintro b a w' ⟨v368, v372, v376, ha, Q_BK365, Q_HB, Q_HO369, Q_HO373, Q_HO377⟩ hb_ hon hoff
              refine ⟨_, rfl, fun K hK => ?_⟩
              have e13 : a.tmps[13]? = some (.pointer (some ⟨gb365, 0, none⟩)) := by rw [ha]; exact (putSel_off rfl).trans rfl
              replace ha := Aside0.mk ha
              have BK365 := Aside0.mk Q_BK365
              have HB := Aside0.mk Q_HB
              have hc0_ : w'.cell? ⟨gb365, 0, none⟩ = some (.int .i64 a0_0) := (blk_cell BK365.out 0).trans rfl
              have hc1_ : w'.cell? ⟨gb365, 1, none⟩ = some (.int .i64 a0_1) := (blk_cell BK365.out 1).trans rfl
              have hc2_ : w'.cell? ⟨gb365, 2, none⟩ = some (.int .i64 a0_2) := (blk_cell BK365.out 2).trans rfl
              have hc3_ : w'.cell? ⟨gb365, 3, none⟩ = some (.int .i64 a0_3) := (blk_cell BK365.out 3).trans rfl
              have hc4_ : w'.cell? ⟨gb365, 4, none⟩ = some (.slice A0_4 l0_4.length c0_4) := (blk_cell BK365.out 4).trans rfl
              have hc5_ : w'.cell? ⟨gb365, 5, none⟩ = some (.int .i64 a0_5) := (blk_cell BK365.out 5).trans rfl
              have hc6_ : w'.cell? ⟨gb365, 6, none⟩ = some (.int .i64 a0_6) := (blk_cell BK365.out 6).trans rfl
              have hc7_ : w'.cell? ⟨gb365, 7, none⟩ = some (.slice A0_7 l0_7.length c0_7) := (blk_cell BK365.out 7).trans rfl
              have hc8_ : w'.cell? ⟨gb365, 8, none⟩ = some (.int .i64 a0_8) := (blk_cell BK365.out 8).trans rfl
              refine value_ (w1 := w') (v := .int .i64 a0_0) (by rfl) rfl ?_ ?_
              · go_simp
                (try simp only [i64_w])
                try rfl
              refine hK.out _ _ ⟨v368, v372, v376, (by rw [ha.out]; exact putSel_upk 0 hb_ rfl rfl rfl), Q_BK365, Q_HB, fun h0_ => absurd ((hoff 4 (by kernel_rfl)).symm.trans h0_) (by decide), Q_HO373, Q_HO377⟩
            refine steps_cons ?_ ?_
            · rintro b a w' ⟨v368, v372, v376, ha, Q_BK365, Q_HB, Q_HO369, Q_HO373, Q_HO377⟩ hb_ hon hoff
              refine ⟨_, rfl, fun K hK => ?_⟩
              have e15 : a.tmps[15]? = some (.pointer (some ⟨gb365, 1, none⟩)) := by rw [ha]; exact (putSel_off rfl).trans rfl
              replace ha := Aside0.mk ha
              have BK365 := Aside0.mk Q_BK365
              have HB := Aside0.mk Q_HB
              have hc0_ : w'.cell? ⟨gb365, 0, none⟩ = some (.int .i64 a0_0) := (blk_cell BK365.out 0).trans rfl
              have hc1_ : w'.cell? ⟨gb365, 1, none⟩ = some (.int .i64 a0_1) := (blk_cell BK365.out 1).trans rfl
              have hc2_ : w'.cell? ⟨gb365, 2, none⟩ = some (.int .i64 a0_2) := (blk_cell BK365.out 2).trans rfl
              have hc3_ : w'.cell? ⟨gb365, 3, none⟩ = some (.int .i64 a0_3) := (blk_cell BK365.out 3).trans rfl
              have hc4_ : w'.cell? ⟨gb365, 4, none⟩ = some (.slice A0_4 l0_4.length c0_4) := (blk_cell BK365.out 4).trans rfl
              have hc5_ : w'.cell? ⟨gb365, 5, none⟩ = some (.int .i64 a0_5) := (blk_cell BK365.out 5).trans rfl
              have hc6_ : w'.cell? ⟨gb365, 6, none⟩ = some (.int .i64 a0_6) := (blk_cell BK365.out 6).trans rfl
              have hc7_ : w'.cell? ⟨gb365, 7, none⟩ = some (.slice A0_7 l0_7.length c0_7) := (blk_cell BK365.out 7).trans rfl
              have hc8_ : w'.cell? ⟨gb365, 8, none⟩ = some (.int .i64 a0_8) := (blk_cell BK365.out 8).trans rfl
              refine value_ (w1 := w') (v := .int .i64 a0_1) (by rfl) rfl ?_ ?_
              · go_simp
                (try simp only [i64_w])
                try rfl
              refine hK.out _ _ ⟨v368, v372, v376, (by rw [ha.out]; exact putSel_upk 1 hb_ rfl rfl rfl), Q_BK365, Q_HB, fun h0_ => absurd ((hoff 4 (by kernel_rfl)).symm.trans h0_) (by decide), Q_HO373, Q_HO377⟩
            refine steps_cons ?_ ?_
            · rintro b a w' ⟨v368, v372, v376, ha, Q_BK365, Q_HB, Q_HO369, Q_HO373, Q_HO377⟩ hb_ hon hoff
              refine ⟨_, rfl, fun K hK => ?_⟩
              have e14 : a.tmps[14]? = some (.int .i64 a0_0) := by rw [ha]; exact putSel_on (e := (1, 14, .int .i64 a0_0)) 0 rfl rfl (hon 1 (by kernel_rfl)) rfl
              have e16 : a.tmps[16]? = some (.int .i64 a0_1) := by rw [ha]; exact putSel_on (e := (3, 16, .int .i64 a0_1)) 1 rfl rfl (hon 3 (by kernel_rfl)) rfl
              replace ha := Aside0.mk ha
              have BK365 := Aside0.mk Q_BK365
              have HB := Aside0.mk Q_HB
              refine Kd.R_lit_step (Kd.int .i64) _ 3 ?hg (N := 17) ?hd (xs := ([a0_0, a0_1] : List Int)) (inner := [.int .i64 a0_0, .int .i64 a0_1]) (ok := fun _ => True) (okp := fun _ => True) ?hr ?hp (fun _ hk => hk) trivial (Below.refl _ _) (Nat.le_refl _) (by simp) ?_; (case hd => rfl); (case hg => rfl); (case hr => first | (go_simp; done) | (go_simp; rfl)); (case hp => exact (Reps.one (show Kd.M (Kd.int .i64) _ _ _ a0_0 [.int .i64 a0_0] from rfl) (Reps.one (show Kd.M (Kd.int .i64) _ _ _ a0_1 [.int .i64 a0_1] from rfl) (Reps.none _ _))))
              intro v368 w16 ho17 hb hg_ hnew_
              clear hg_ hnew_
              (first | rw [← Ny367.out] at ho17 | (simp only [Int.reduceToNat] at ho17; rw [← Ny367.out] at ho17))
              have n0_ := Aside0.mk (Kd.R_lower ho17 (below_size (zh1 HB.out GE365.out)))
              have n1_ := Aside0.mk (zB BK365.out hb)
              have n2_ := Aside0.mk (below_step (zh1 HB.out GE365.out) hb)
              have z_HO373 := fun (h0_ : b 8 = true) => (show Kd.R (Kd.int .i64) 3 w16 w.heap.size (fun _ => True) v372 y371 from by first | exact (Kd.R_elder' (by (with_reducible repeat (first | apply Kd.R_alloc | apply Kd.R_drewN | apply Kd.R_drew)); exact (Q_HO373 h0_)) (Kd.R_base ho17) hb) | exact Kd.R_mono (Kd.R_elder' (by (with_reducible repeat (first | apply Kd.R_alloc | apply Kd.R_drewN | apply Kd.R_drew)); exact (Q_HO373 h0_)) (Kd.R_base ho17) hb) (fun _ h_ => by first | trivial | exact h_ | exact h_.1))
              have z_HO377 := fun (h0_ : b 13 = true) => (show Kd.R (Kd.int .i64) 3 w16 w.heap.size (fun _ => True) v376 y375 from by first | exact (Kd.R_elder' (by (with_reducible repeat (first | apply Kd.R_alloc | apply Kd.R_drewN | apply Kd.R_drew)); exact (Q_HO377 h0_)) (Kd.R_base ho17) hb) | exact Kd.R_mono (Kd.R_elder' (by (with_reducible repeat (first | apply Kd.R_alloc | apply Kd.R_drewN | apply Kd.R_drew)); exact (Q_HO377 h0_)) (Kd.R_base ho17) hb) (fun _ h_ => by first | trivial | exact h_ | exact h_.1))
              clear BK365; clear HB
              have HO369 := n0_
              have BK365 := n1_
              have HB := n2_
              clear n0_ n1_ n2_
              clear hb ho17
              refine hK.out _ _ ⟨v368, v372, v376, (by rw [ha.out]; exact putSel_upk 2 hb_ rfl rfl rfl), (zb BK365.out), (zh1 HB.out GE365.out), fun _ => (zr HO369.out), z_HO373, z_HO377⟩
            refine steps_cons ?_ ?_
            · rintro b a w' ⟨v368, v372, v376, ha, Q_BK365, Q_HB, Q_HO369, Q_HO373, Q_HO377⟩ hb_ hon hoff
              refine ⟨_, rfl, fun K hK => ?_⟩
              have e17 : a.tmps[17]? = some (v368) := by rw [ha]; exact putSel_on (e := (4, 17, v368)) 2 rfl rfl (hon 4 (by kernel_rfl)) rfl
              replace ha := Aside0.mk ha
              have BK365 := Aside0.mk Q_BK365
              have HB := Aside0.mk Q_HB
              have HO369 := Aside0.mk (Q_HO369 (hon 4 (by kernel_rfl)))
              obtain ⟨Ao19, co19, eo19⟩ := Kd.R_slice HO369.out
              (first | subst eo19 | (injection eo19 with f1_ f2_ f3_; have f4_ := f1_.symm; have f5_ := f3_.symm; clear f1_ f2_ f3_; subst f4_; subst f5_))
              refine goes_ Try.func27 (by kernel_rfl) rfl #[.int .i64 1, .slice Ao19 y367.length co19] (by rfl) rfl rfl (by first | (simp only [List.map_toArray, List.map_cons, List.map_nil, Act.eval, Array.getD_eq_getD_getElem?, Option.getD_some, e17]; done) | (simp only [List.map_toArray, List.map_cons, List.map_nil, Act.eval, Array.getD_eq_getD_getElem?, Option.getD_some, e17]; rfl)) ?_
              with_reducible refine (r9_bytes.calls k 1 _ _ y367 t370 _ ?side1 ?side2 A10.out).mono ?_
              (case side1 => exact zc ((Kd.R_reads' HO369.out).2.2))
              (case side2 => exact (Kd.R_reads' HO369.out).2.1)
              rintro e w20 ⟨rfl, hb⟩
              refine ⟨_, rfl, ?_⟩
              have n0_ := Aside0.mk (zR HO369.out hb)
              have n1_ := Aside0.mk (zB BK365.out hb)
              have n2_ := Aside0.mk (below_step (zh1 HB.out GE365.out) hb)
              have z_HO373 := fun (h0_ : b 8 = true) => (show Kd.R (Kd.int .i64) 3 w20 w.heap.size (fun _ => True) v372 y371 from by first | exact (Kd.R_below (by (with_reducible repeat (first | apply Kd.R_alloc | apply Kd.R_drewN | apply Kd.R_drew)); exact (Q_HO373 h0_)) hb) | exact Kd.R_mono (Kd.R_below (by (with_reducible repeat (first | apply Kd.R_alloc | apply Kd.R_drewN | apply Kd.R_drew)); exact (Q_HO373 h0_)) hb) (fun _ h_ => by first | trivial | exact h_ | exact h_.1))
              have z_HO377 := fun (h0_ : b 13 = true) => (show Kd.R (Kd.int .i64) 3 w20 w.heap.size (fun _ => True) v376 y375 from by first | exact (Kd.R_below (by (with_reducible repeat (first | apply Kd.R_alloc | apply Kd.R_drewN | apply Kd.R_drew)); exact (Q_HO377 h0_)) hb) | exact Kd.R_mono (Kd.R_below (by (with_reducible repeat (first | apply Kd.R_alloc | apply Kd.R_drewN | apply Kd.R_drew)); exact (Q_HO377 h0_)) hb) (fun _ h_ => by first | trivial | exact h_ | exact h_.1))
              clear HO369; clear BK365; clear HB
              have HO369 := n0_
              have BK365 := n1_
              have HB := n2_
              clear n0_ n1_ n2_
              (try clear hb); (try clear hb2)
              (try clear hk); (try clear hi)
              refine hK.out _ _ ⟨.slice Ao19 y367.length co19, v372, v376, (by rw [ha.out]; exact putSel_upk 3 hb_ rfl rfl rfl), (zb BK365.out), (zh1 HB.out GE365.out), fun _ => (zr HO369.out), z_HO373, z_HO377⟩
            refine steps_cons ?_ ?_
            · rintro b a w' ⟨v368, v372, v376, ha, Q_BK365, Q_HB, Q_HO369, Q_HO373, Q_HO377⟩ hb_ hon hoff
              refine ⟨_, rfl, fun K hK => ?_⟩
              have e19 : a.tmps[19]? = some (.pointer (some ⟨gb365, 2, none⟩)) := by rw [ha]; exact (putSel_off rfl).trans rfl
              replace ha := Aside0.mk ha
              have BK365 := Aside0.mk Q_BK365
              have HB := Aside0.mk Q_HB
              have hc0_ : w'.cell? ⟨gb365, 0, none⟩ = some (.int .i64 a0_0) := (blk_cell BK365.out 0).trans rfl
              have hc1_ : w'.cell? ⟨gb365, 1, none⟩ = some (.int .i64 a0_1) := (blk_cell BK365.out 1).trans rfl
              have hc2_ : w'.cell? ⟨gb365, 2, none⟩ = some (.int .i64 a0_2) := (blk_cell BK365.out 2).trans rfl
              have hc3_ : w'.cell? ⟨gb365, 3, none⟩ = some (.int .i64 a0_3) := (blk_cell BK365.out 3).trans rfl
              have hc4_ : w'.cell? ⟨gb365, 4, none⟩ = some (.slice A0_4 l0_4.length c0_4) := (blk_cell BK365.out 4).trans rfl
              have hc5_ : w'.cell? ⟨gb365, 5, none⟩ = some (.int .i64 a0_5) := (blk_cell BK365.out 5).trans rfl
              have hc6_ : w'.cell? ⟨gb365, 6, none⟩ = some (.int .i64 a0_6) := (blk_cell BK365.out 6).trans rfl
              have hc7_ : w'.cell? ⟨gb365, 7, none⟩ = some (.slice A0_7 l0_7.length c0_7) := (blk_cell BK365.out 7).trans rfl
              have hc8_ : w'.cell? ⟨gb365, 8, none⟩ = some (.int .i64 a0_8) := (blk_cell BK365.out 8).trans rfl
              refine value_ (w1 := w') (v := .int .i64 a0_2) (by rfl) rfl ?_ ?_
              · go_simp
                (try simp only [i64_w])
                try rfl
              refine hK.out _ _ ⟨v368, v372, v376, (by rw [ha.out]; exact putSel_upk 4 hb_ rfl rfl rfl), Q_BK365, Q_HB, Q_HO369, fun h0_ => absurd ((hoff 8 (by kernel_rfl)).symm.trans h0_) (by decide), Q_HO377⟩
            refine steps_cons ?_ ?_
            · rintro b a w' ⟨v368, v372, v376, ha, Q_BK365, Q_HB, Q_HO369, Q_HO373, Q_HO377⟩ hb_ hon hoff
              refine ⟨_, rfl, fun K hK => ?_⟩
              have e20 : a.tmps[20]? = some (.int .i64 a0_2) := by rw [ha]; exact putSel_on (e := (7, 20, .int .i64 a0_2)) 4 rfl rfl (hon 7 (by kernel_rfl)) rfl
              replace ha := Aside0.mk ha
              have BK365 := Aside0.mk Q_BK365
              have HB := Aside0.mk Q_HB
              refine Kd.R_lit_step (Kd.int .i64) _ 3 ?hg (N := 21) ?hd (xs := ([a0_2] : List Int)) (inner := [.int .i64 a0_2]) (ok := fun _ => True) (okp := fun _ => True) ?hr ?hp (fun _ hk => hk) trivial (Below.refl _ _) (Nat.le_refl _) (by simp) ?_; (case hd => rfl); (case hg => rfl); (case hr => first | (go_simp; done) | (go_simp; rfl)); (case hp => exact (Reps.one (show Kd.M (Kd.int .i64) _ _ _ a0_2 [.int .i64 a0_2] from rfl) (Reps.none _ _)))
              intro v372 w16 ho17 hb hg_ hnew_
              clear hg_ hnew_
              (first | rw [← Ny371.out] at ho17 | (simp only [Int.reduceToNat] at ho17; rw [← Ny371.out] at ho17))
              have n0_ := Aside0.mk (Kd.R_lower ho17 (below_size (zh1 HB.out GE365.out)))
              have n1_ := Aside0.mk (zB BK365.out hb)
              have n2_ := Aside0.mk (below_step (zh1 HB.out GE365.out) hb)
              have z_HO369 := fun (h0_ : b 4 = true) => (show Kd.R (Kd.int .i64) 3 w16 w.heap.size (fun _ => True) v368 y367 from by first | exact (Kd.R_elder' (by (with_reducible repeat (first | apply Kd.R_alloc | apply Kd.R_drewN | apply Kd.R_drew)); exact (Q_HO369 h0_)) (Kd.R_base ho17) hb) | exact Kd.R_mono (Kd.R_elder' (by (with_reducible repeat (first | apply Kd.R_alloc | apply Kd.R_drewN | apply Kd.R_drew)); exact (Q_HO369 h0_)) (Kd.R_base ho17) hb) (fun _ h_ => by first | trivial | exact h_ | exact h_.1))
              have z_HO377 := fun (h0_ : b 13 = true) => (show Kd.R (Kd.int .i64) 3 w16 w.heap.size (fun _ => True) v376 y375 from by first | exact (Kd.R_elder' (by (with_reducible repeat (first | apply Kd.R_alloc | apply Kd.R_drewN | apply Kd.R_drew)); exact (Q_HO377 h0_)) (Kd.R_base ho17) hb) | exact Kd.R_mono (Kd.R_elder' (by (with_reducible repeat (first | apply Kd.R_alloc | apply Kd.R_drewN | apply Kd.R_drew)); exact (Q_HO377 h0_)) (Kd.R_base ho17) hb) (fun _ h_ => by first | trivial | exact h_ | exact h_.1))
              clear BK365; clear HB
              have HO373 := n0_
              have BK365 := n1_
              have HB := n2_
              clear n0_ n1_ n2_
              clear hb ho17
              refine hK.out _ _ ⟨v368, v372, v376, (by rw [ha.out]; exact putSel_upk 5 hb_ rfl rfl rfl), (zb BK365.out), (zh1 HB.out GE365.out), z_HO369, fun _ => (zr HO373.out), z_HO377⟩
            refine steps_cons ?_ ?_
            · rintro b a w' ⟨v368, v372, v376, ha, Q_BK365, Q_HB, Q_HO369, Q_HO373, Q_HO377⟩ hb_ hon hoff
              refine ⟨_, rfl, fun K hK => ?_⟩
              have e21 : a.tmps[21]? = some (v372) := by rw [ha]; exact putSel_on (e := (8, 21, v372)) 5 rfl rfl (hon 8 (by kernel_rfl)) rfl
              replace ha := Aside0.mk ha
              have BK365 := Aside0.mk Q_BK365
              have HB := Aside0.mk Q_HB
              have HO369 := Aside0.mk (Q_HO369 (hon 4 (by kernel_rfl)))
              have HO373 := Aside0.mk (Q_HO373 (hon 8 (by kernel_rfl)))
              obtain ⟨Ao23, co23, eo23⟩ := Kd.R_slice HO373.out
              (first | subst eo23 | (injection eo23 with f1_ f2_ f3_; have f4_ := f1_.symm; have f5_ := f3_.symm; clear f1_ f2_ f3_; subst f4_; subst f5_))
              refine goes_ Try.func27 (by kernel_rfl) rfl #[.int .i64 2, .slice Ao23 y371.length co23] (by rfl) rfl rfl (by first | (simp only [List.map_toArray, List.map_cons, List.map_nil, Act.eval, Array.getD_eq_getD_getElem?, Option.getD_some, e21]; done) | (simp only [List.map_toArray, List.map_cons, List.map_nil, Act.eval, Array.getD_eq_getD_getElem?, Option.getD_some, e21]; rfl)) ?_
              with_reducible refine (r9_bytes.calls k 2 _ _ y371 t374 _ ?side1 ?side2 A11.out).mono ?_
              (case side1 => exact zc ((Kd.R_reads' HO373.out).2.2))
              (case side2 => exact (Kd.R_reads' HO373.out).2.1)
              rintro e w24 ⟨rfl, hb⟩
              refine ⟨_, rfl, ?_⟩
              have n0_ := Aside0.mk (zR HO369.out hb)
              have n1_ := Aside0.mk (zR HO373.out hb)
              have n2_ := Aside0.mk (zB BK365.out hb)
              have n3_ := Aside0.mk (below_step (zh1 HB.out GE365.out) hb)
              have z_HO377 := fun (h0_ : b 13 = true) => (show Kd.R (Kd.int .i64) 3 w24 w.heap.size (fun _ => True) v376 y375 from by first | exact (Kd.R_below (by (with_reducible repeat (first | apply Kd.R_alloc | apply Kd.R_drewN | apply Kd.R_drew)); exact (Q_HO377 h0_)) hb) | exact Kd.R_mono (Kd.R_below (by (with_reducible repeat (first | apply Kd.R_alloc | apply Kd.R_drewN | apply Kd.R_drew)); exact (Q_HO377 h0_)) hb) (fun _ h_ => by first | trivial | exact h_ | exact h_.1))
              clear HO369; clear HO373
              clear BK365; clear HB
              have HO369 := n0_
              have HO373 := n1_
              have BK365 := n2_
              have HB := n3_
              clear n0_ n1_ n2_ n3_
              (try clear hb); (try clear hb2)
              (try clear hk); (try clear hi)
              refine hK.out _ _ ⟨v368, .slice Ao23 y371.length co23, v376, (by rw [ha.out]; exact putSel_upk 6 hb_ rfl rfl rfl), (zb BK365.out), (zh1 HB.out GE365.out), fun _ => (zr HO369.out), fun _ => (zr HO373.out), z_HO377⟩
            refine steps_cons ?_ ?_
            · rintro b a w' ⟨v368, v372, v376, ha, Q_BK365, Q_HB, Q_HO369, Q_HO373, Q_HO377⟩ hb_ hon hoff
              refine ⟨_, rfl, fun K hK => ?_⟩
              have e18 : a.tmps[18]? = some (.string t370) := by rw [ha]; exact putSel_on (e := (5, 18, .string t370)) 3 rfl rfl (hon 5 (by kernel_rfl)) rfl
              have e22 : a.tmps[22]? = some (.string t374) := by rw [ha]; exact putSel_on (e := (9, 22, .string t374)) 6 rfl rfl (hon 9 (by kernel_rfl)) rfl
              replace ha := Aside0.mk ha
              have BK365 := Aside0.mk Q_BK365
              have HB := Aside0.mk Q_HB
              have HO369 := Aside0.mk (Q_HO369 (hon 4 (by kernel_rfl)))
              have HO373 := Aside0.mk (Q_HO373 (hon 8 (by kernel_rfl)))
              refine value_ (w1 := w') (v := .string (t370 ++ t374)) (by rfl) rfl ?_ ?_
              · go_simp
                (try simp only [i64_w])
                try rfl
              refine hK.out _ _ ⟨v368, v372, v376, (by rw [ha.out]; exact putSel_upk 7 hb_ rfl rfl rfl), Q_BK365, Q_HB, Q_HO369, Q_HO373, Q_HO377⟩
            refine steps_cons ?_ ?_
            · rintro b a w' ⟨v368, v372, v376, ha, Q_BK365, Q_HB, Q_HO369, Q_HO373, Q_HO377⟩ hb_ hon hoff
              refine ⟨_, rfl, fun K hK => ?_⟩
              have e24 : a.tmps[24]? = some (.pointer (some ⟨gb365, 3, none⟩)) := by rw [ha]; exact (putSel_off rfl).trans rfl
              replace ha := Aside0.mk ha
              have BK365 := Aside0.mk Q_BK365
              have HB := Aside0.mk Q_HB
              have hc0_ : w'.cell? ⟨gb365, 0, none⟩ = some (.int .i64 a0_0) := (blk_cell BK365.out 0).trans rfl
              have hc1_ : w'.cell? ⟨gb365, 1, none⟩ = some (.int .i64 a0_1) := (blk_cell BK365.out 1).trans rfl
              have hc2_ : w'.cell? ⟨gb365, 2, none⟩ = some (.int .i64 a0_2) := (blk_cell BK365.out 2).trans rfl
              have hc3_ : w'.cell? ⟨gb365, 3, none⟩ = some (.int .i64 a0_3) := (blk_cell BK365.out 3).trans rfl
              have hc4_ : w'.cell? ⟨gb365, 4, none⟩ = some (.slice A0_4 l0_4.length c0_4) := (blk_cell BK365.out 4).trans rfl
              have hc5_ : w'.cell? ⟨gb365, 5, none⟩ = some (.int .i64 a0_5) := (blk_cell BK365.out 5).trans rfl
              have hc6_ : w'.cell? ⟨gb365, 6, none⟩ = some (.int .i64 a0_6) := (blk_cell BK365.out 6).trans rfl
              have hc7_ : w'.cell? ⟨gb365, 7, none⟩ = some (.slice A0_7 l0_7.length c0_7) := (blk_cell BK365.out 7).trans rfl
              have hc8_ : w'.cell? ⟨gb365, 8, none⟩ = some (.int .i64 a0_8) := (blk_cell BK365.out 8).trans rfl
              refine value_ (w1 := w') (v := .int .i64 a0_3) (by rfl) rfl ?_ ?_
              · go_simp
                (try simp only [i64_w])
                try rfl
              refine hK.out _ _ ⟨v368, v372, v376, (by rw [ha.out]; exact putSel_upk 8 hb_ rfl rfl rfl), Q_BK365, Q_HB, Q_HO369, Q_HO373, fun h0_ => absurd ((hoff 13 (by kernel_rfl)).symm.trans h0_) (by decide)⟩
            refine steps_cons ?_ ?_
            · rintro b a w' ⟨v368, v372, v376, ha, Q_BK365, Q_HB, Q_HO369, Q_HO373, Q_HO377⟩ hb_ hon hoff
              refine ⟨_, rfl, fun K hK => ?_⟩
              have e25 : a.tmps[25]? = some (.int .i64 a0_3) := by rw [ha]; exact putSel_on (e := (12, 25, .int .i64 a0_3)) 8 rfl rfl (hon 12 (by kernel_rfl)) rfl
              replace ha := Aside0.mk ha
              have BK365 := Aside0.mk Q_BK365
              have HB := Aside0.mk Q_HB
              refine Kd.R_lit_step (Kd.int .i64) _ 3 ?hg (N := 26) ?hd (xs := ([a0_3] : List Int)) (inner := [.int .i64 a0_3]) (ok := fun _ => True) (okp := fun _ => True) ?hr ?hp (fun _ hk => hk) trivial (Below.refl _ _) (Nat.le_refl _) (by simp) ?_; (case hd => rfl); (case hg => rfl); (case hr => first | (go_simp; done) | (go_simp; rfl)); (case hp => exact (Reps.one (show Kd.M (Kd.int .i64) _ _ _ a0_3 [.int .i64 a0_3] from rfl) (Reps.none _ _)))
              intro v376 w16 ho17 hb hg_ hnew_
              clear hg_ hnew_
              (first | rw [← Ny375.out] at ho17 | (simp only [Int.reduceToNat] at ho17; rw [← Ny375.out] at ho17))
              have n0_ := Aside0.mk (Kd.R_lower ho17 (below_size (zh1 HB.out GE365.out)))
              have n1_ := Aside0.mk (zB BK365.out hb)
              have n2_ := Aside0.mk (below_step (zh1 HB.out GE365.out) hb)
              have z_HO369 := fun (h0_ : b 4 = true) => (show Kd.R (Kd.int .i64) 3 w16 w.heap.size (fun _ => True) v368 y367 from by first | exact (Kd.R_elder' (by (with_reducible repeat (first | apply Kd.R_alloc | apply Kd.R_drewN | apply Kd.R_drew)); exact (Q_HO369 h0_)) (Kd.R_base ho17) hb) | exact Kd.R_mono (Kd.R_elder' (by (with_reducible repeat (first | apply Kd.R_alloc | apply Kd.R_drewN | apply Kd.R_drew)); exact (Q_HO369 h0_)) (Kd.R_base ho17) hb) (fun _ h_ => by first | trivial | exact h_ | exact h_.1))
              have z_HO373 := fun (h0_ : b 8 = true) => (show Kd.R (Kd.int .i64) 3 w16 w.heap.size (fun _ => True) v372 y371 from by first | exact (Kd.R_elder' (by (with_reducible repeat (first | apply Kd.R_alloc | apply Kd.R_drewN | apply Kd.R_drew)); exact (Q_HO373 h0_)) (Kd.R_base ho17) hb) | exact Kd.R_mono (Kd.R_elder' (by (with_reducible repeat (first | apply Kd.R_alloc | apply Kd.R_drewN | apply Kd.R_drew)); exact (Q_HO373 h0_)) (Kd.R_base ho17) hb) (fun _ h_ => by first | trivial | exact h_ | exact h_.1))
              clear BK365; clear HB
              have HO377 := n0_
              have BK365 := n1_
              have HB := n2_
              clear n0_ n1_ n2_
              clear hb ho17
              refine hK.out _ _ ⟨v368, v372, v376, (by rw [ha.out]; exact putSel_upk 9 hb_ rfl rfl rfl), (zb BK365.out), (zh1 HB.out GE365.out), z_HO369, z_HO373, fun _ => (zr HO377.out)⟩
            refine steps_cons ?_ ?_
            · rintro b a w' ⟨v368, v372, v376, ha, Q_BK365, Q_HB, Q_HO369, Q_HO373, Q_HO377⟩ hb_ hon hoff
              refine ⟨_, rfl, fun K hK => ?_⟩
              have e26 : a.tmps[26]? = some (v376) := by rw [ha]; exact putSel_on (e := (13, 26, v376)) 9 rfl rfl (hon 13 (by kernel_rfl)) rfl
              replace ha := Aside0.mk ha
              have BK365 := Aside0.mk Q_BK365
              have HB := Aside0.mk Q_HB
              have HO369 := Aside0.mk (Q_HO369 (hon 4 (by kernel_rfl)))
              have HO373 := Aside0.mk (Q_HO373 (hon 8 (by kernel_rfl)))
              have HO377 := Aside0.mk (Q_HO377 (hon 13 (by kernel_rfl)))
              obtain ⟨Ao27, co27, eo27⟩ := Kd.R_slice HO377.out
              (first | subst eo27 | (injection eo27 with f1_ f2_ f3_; have f4_ := f1_.symm; have f5_ := f3_.symm; clear f1_ f2_ f3_; subst f4_; subst f5_))
              refine goes_ Try.func27 (by kernel_rfl) rfl #[.int .i64 4, .slice Ao27 y375.length co27] (by rfl) rfl rfl (by first | (simp only [List.map_toArray, List.map_cons, List.map_nil, Act.eval, Array.getD_eq_getD_getElem?, Option.getD_some, e26]; done) | (simp only [List.map_toArray, List.map_cons, List.map_nil, Act.eval, Array.getD_eq_getD_getElem?, Option.getD_some, e26]; rfl)) ?_
              with_reducible refine (r9_bytes.calls k 4 _ _ y375 t378 _ ?side1 ?side2 A13.out).mono ?_
              (case side1 => exact zc ((Kd.R_reads' HO377.out).2.2))
              (case side2 => exact (Kd.R_reads' HO377.out).2.1)
              rintro e w28 ⟨rfl, hb⟩
              refine ⟨_, rfl, ?_⟩
              replace HO369 := Aside0.mk (zR HO369.out hb)
              replace HO373 := Aside0.mk (zR HO373.out hb)
              replace HO377 := Aside0.mk (zR HO377.out hb)
              replace BK365 := Aside0.mk (zB BK365.out hb)
              replace HB := Aside0.mk (below_step (zh1 HB.out GE365.out) hb)
              (try clear hb); (try clear hb2)
              (try clear hk); (try clear hi)
              refine hK.out _ _ ⟨v368, v372, .slice Ao27 y375.length co27, (by rw [ha.out]; exact putSel_upk 10 hb_ rfl rfl rfl), (zb BK365.out), (zh1 HB.out GE365.out), fun _ => (zr HO369.out), fun _ => (zr HO373.out), fun _ => (zr HO377.out)⟩
            refine steps_cons ?_ ?_
            · rintro b a w' ⟨v368, v372, v376, ha, Q_BK365, Q_HB, Q_HO369, Q_HO373, Q_HO377⟩ hb_ hon hoff
              refine ⟨_, rfl, fun K hK => ?_⟩
              have e23 : a.tmps[23]? = some (.string (t370 ++ t374)) := by rw [ha]; exact putSel_on (e := (10, 23, .string (t370 ++ t374))) 7 rfl rfl (hon 10 (by kernel_rfl)) rfl
              have e27 : a.tmps[27]? = some (.string t378) := by rw [ha]; exact putSel_on (e := (14, 27, .string t378)) 10 rfl rfl (hon 14 (by kernel_rfl)) rfl
              replace ha := Aside0.mk ha
              have BK365 := Aside0.mk Q_BK365
              have HB := Aside0.mk Q_HB
              have HO369 := Aside0.mk (Q_HO369 (hon 4 (by kernel_rfl)))
              have HO373 := Aside0.mk (Q_HO373 (hon 8 (by kernel_rfl)))
              have HO377 := Aside0.mk (Q_HO377 (hon 13 (by kernel_rfl)))
              refine value_ (w1 := w') (v := .string ((t370 ++ t374) ++ t378)) (by rfl) rfl ?_ ?_
              · go_simp
                (try simp only [i64_w])
                try rfl
              refine hK.out _ _ ⟨v368, v372, v376, (by rw [ha.out]; exact putSel_upk 11 hb_ rfl rfl rfl), Q_BK365, Q_HB, Q_HO369, Q_HO373, Q_HO377⟩
            refine steps_cons ?_ ?_
            · rintro b a w' ⟨v368, v372, v376, ha, Q_BK365, Q_HB, Q_HO369, Q_HO373, Q_HO377⟩ hb_ hon hoff
              refine ⟨_, rfl, fun K hK => ?_⟩
              have e28 : a.tmps[28]? = some (.string ((t370 ++ t374) ++ t378)) := by rw [ha]; exact putSel_on (e := (15, 28, .string ((t370 ++ t374) ++ t378))) 11 rfl rfl (hon 15 (by kernel_rfl)) rfl
              replace ha := Aside0.mk ha
              have BK365 := Aside0.mk Q_BK365
              have HB := Aside0.mk Q_HB
              have HO369 := Aside0.mk (Q_HO369 (hon 4 (by kernel_rfl)))
              have HO373 := Aside0.mk (Q_HO373 (hon 8 (by kernel_rfl)))
              have HO377 := Aside0.mk (Q_HO377 (hon 13 (by kernel_rfl)))
              refine value_ (w1 := w') (v := .string ((t370 ++ t374) ++ t378)) (by rfl) rfl ?_ ?_
              · go_simp
                (try simp only [i64_w])
                try rfl
              refine hK.out _ _ ⟨v368, v372, v376, (by rw [ha.out]; exact putSel_upk 12 hb_ rfl rfl rfl), Q_BK365, Q_HB, Q_HO369, Q_HO373, Q_HO377⟩
            exact steps_nil
          rintro b a w28 hall ⟨v368, v372, v376, ha, Q_BK365, Q_HB, Q_HO369, Q_HO373, Q_HO377⟩
          clear BK365 HB
          have hb1_ := hall 1 (by kernel_rfl)
          have hb3_ := hall 3 (by kernel_rfl)
          have hb4_ := hall 4 (by kernel_rfl)
          have hb5_ := hall 5 (by kernel_rfl)
          have hb7_ := hall 7 (by kernel_rfl)
          have hb8_ := hall 8 (by kernel_rfl)
          have hb9_ := hall 9 (by kernel_rfl)
          have hb10_ := hall 10 (by kernel_rfl)
          have hb12_ := hall 12 (by kernel_rfl)
          have hb13_ := hall 13 (by kernel_rfl)
          have hb14_ := hall 14 (by kernel_rfl)
          have hb15_ := hall 15 (by kernel_rfl)
          have hb16_ := hall 16 (by kernel_rfl)
          subst ha
          simp only [putSel, hb1_, hb3_, hb4_, hb5_, hb7_, hb8_, hb9_, hb10_, hb12_, hb13_, hb14_, hb15_, hb16_, if_true, Act.put, List.setIfInBounds_toArray, List.set_cons_zero, List.set_cons_succ]
          have BK365 := Aside0.mk Q_BK365
          clear Q_BK365
          have HB := Aside0.mk Q_HB
          clear Q_HB
          have HO369 := Aside0.mk (Q_HO369 hb4_)
          clear Q_HO369
          have HO373 := Aside0.mk (Q_HO373 hb8_)
          clear Q_HO373
          have HO377 := Aside0.mk (Q_HO377 hb13_)
          clear Q_HO377
          clear hall hb1_ hb3_ hb4_ hb5_ hb7_ hb8_ hb9_ hb10_ hb12_ hb13_ hb14_ hb15_ hb16_
          try go_wp2
          go_meet
          case rel => exact ⟨_, ((t370 ++ t374) ++ t378), (zs), H', ⟨zl⟩, ⟨zb BK365.out⟩, ⟨zh1 HB.out GE365.out⟩⟩
        · rw [if_neg c14] at H
          exact absurd H (by simp)
      · rw [if_neg c12] at H
        exact absurd H (by simp)
   case rest =>
    clear HC4; (try clear c1)
    (try clear c2); (try clear p2)
    (try clear c3); (try clear c4)
    (try clear c5); (try clear c6)
    (try clear c7); (try clear c8)
    (try clear c9); (try clear c9b0)
    (try clear c9b1); (try clear c10)
    (try clear c12); (try clear c12b0)
    (try clear c12b1); (try clear c12b2)
    (try clear c14); (try clear c14b0)
    (try clear c14b1); (try clear c14b2)
    (try clear c27); (try clear hcz6_0)
    (try clear hcz6_1); (try clear hcz6_2)
    (try clear hcz6_3); (try clear hcz6_4)
    (try clear hcz6_5); (try clear hcz6_6)
    (try clear hcz6_7); (try clear hcz6_8)
    (try clear hcz8_0); (try clear hcz8_1)
    (try clear hcz8_2); (try clear hcz8_3)
    (try clear hcz8_4); (try clear hcz8_5)
    (try clear hcz8_6); (try clear hcz8_7)
    (try clear hcz8_8); (try clear hfz6_0)
    (try clear hfz6_1); (try clear hfz6_2)
    (try clear hfz6_3); (try clear hfz6_4)
    (try clear hfz6_5); (try clear hfz6_6)
    (try clear hfz6_7); (try clear hfz6_8)
    (try clear hfz8_0); (try clear hfz8_1)
    (try clear hfz8_2); (try clear hfz8_3)
    (try clear hfz8_4); (try clear hfz8_5)
    (try clear hfz8_6); (try clear hfz8_7); (try clear hfz8_8)
    obtain ⟨kq, x4_3, rfl, HA, HJ3, BK365, HB⟩ := hcut
    cases kq with
    | zero => exact absurd HA.out (by simp [r9_Write.j0])
    | succ kj3 =>
      have H := HA.out
      clear HA
      simp only [r9_Write.j0] at H
      have HC29 := Aside0.mk H
      clear H
      obtain ⟨hcz30_0, hcz30_1, hcz30_2, hcz30_3, hcz30_4, hcz30_5, hcz30_6, hcz30_7, hcz30_8⟩ := cells9 BK365.out
      obtain ⟨hfz30_0, hfz30_1, hfz30_2, hfz30_3, hfz30_4, hfz30_5, hfz30_6, hfz30_7, hfz30_8⟩ := frozen9 BK365.out
      go_upto_if 31 with (fail)
      go_cut [4] (fun v4 wc => ∃ (kq : Nat) (x4_28 : ByteArray), v4 = .string x4_28 ∧ Aside0 (r9_Write.j1 kq x4_28 a0_0 a0_1 a0_2 a0_3 l0_4 a0_5 a0_6 l0_7 a0_8 = some (r1, r2)) ∧ Aside0 (kq ≤ kj3) ∧ Aside0 (wc.heap[gb365]? = some (.cells #[.int .i64 a0_0, .int .i64 a0_1, .int .i64 a0_2, .int .i64 a0_3, (.slice A0_4 l0_4.length c0_4), .int .i64 a0_5, .int .i64 a0_6, (.slice A0_7 l0_7.length c0_7), .int .i64 a0_8] 25 (0, 0))) ∧ Aside0 (Below w.heap.size w wc))
      case first =>
       have H := HC29.out
       clear HC29
       by_cases c31 : a0_0 = 1
       · rw [if_pos c31] at H
         have c31b0 : (a0_0 == 1) = true := beq_iff_eq.mpr c31
         have c31b1 : (a0_0 != 1) = false := bne_eq_false_iff_eq.mpr c31
         clear c31
         (first | rw [c31b0] | (simp only [i64_w, i32_w]; rw [c31b0]) | skip)
         replace H := Option.bind_eq_some_iff.mp H
         obtain ⟨t379, A320, H⟩ := H
         replace H : ((r9_bytes.f kj3 2 (([a0_5, a0_6] : List Int))).bind fun t383 => (if t379.size + t383.size ≤ 9223372036854775807 then (if x4_3.size + (t379 ++ t383).size ≤ 9223372036854775807 then (r9_Write.j1 kj3 (x4_3 ++ (t379 ++ t383)) a0_0 a0_1 a0_2 a0_3 l0_4 a0_5 a0_6 l0_7 a0_8) else (none)) else (none))) = some (r1, r2) := H
         have A32 := Aside0.mk A320
         clear A320
         obtain ⟨y380, hy380⟩ : ∃ y_ : List Int, y_ = (([a0_5, a0_6] : List Int)) := ⟨_, rfl⟩
         replace H : ((r9_bytes.f kj3 2 y380).bind fun t383 => (if t379.size + t383.size ≤ 9223372036854775807 then (if x4_3.size + (t379 ++ t383).size ≤ 9223372036854775807 then (r9_Write.j1 kj3 (x4_3 ++ (t379 ++ t383)) a0_0 a0_1 a0_2 a0_3 l0_4 a0_5 a0_6 l0_7 a0_8) else (none)) else (none))) = some (r1, r2) := by first | (rw [hy380]; with_reducible exact H) | (have H2_ := (Option.bind_some _ _).symm.trans H; rw [hy380]; with_reducible exact H2_) | (have H2_ := (Option.bind_some _ _).symm.trans H; with_reducible exact H2_) | with_reducible exact H | (rw [hy380]; exact H) | exact H
         have Ny380 := Aside0.mk hy380
         clear hy380
         replace H := Option.bind_eq_some_iff.mp H
         obtain ⟨t383, A330, H⟩ := H
         replace H : (if t379.size + t383.size ≤ 9223372036854775807 then (if x4_3.size + (t379 ++ t383).size ≤ 9223372036854775807 then (r9_Write.j1 kj3 (x4_3 ++ (t379 ++ t383)) a0_0 a0_1 a0_2 a0_3 l0_4 a0_5 a0_6 l0_7 a0_8) else (none)) else (none)) = some (r1, r2) := H
         have A33 := Aside0.mk A330
         clear A330
         by_cases c34 : t379.size + t383.size ≤ 9223372036854775807
         · rw [if_pos c34] at H
           have c34b0 := eq_true c34
           have c34b1 : decide (t379.size + t383.size ≤ 9223372036854775807) = true := decide_eq_true c34
           try have c34b2 : (9223372036854775807 < t379.size + t383.size) = False := eq_false (Nat.not_lt.2 c34)
           by_cases c35 : x4_3.size + (t379 ++ t383).size ≤ 9223372036854775807
           · rw [if_pos c35] at H
             have c35b0 := eq_true c35
             have c35b1 : decide (x4_3.size + (t379 ++ t383).size ≤ 9223372036854775807) = true := decide_eq_true c35
             have c35n := c35
             simp only [ByteArray.size_append] at c35n
             have c35b3 := eq_true c35n
             have c35b4 := decide_eq_true c35n
             have c35b5 := eq_false (Nat.not_lt.2 c35n)
             clear c35n
             try have c35b2 : (9223372036854775807 < x4_3.size + (t379 ++ t383).size) = False := eq_false (Nat.not_lt.2 c35)
             have H' := Aside0.mk H
             clear H
             try go_wp2
             replace BK365 := Aside0.mk (blk_drew BK365.out)
             replace HB := Aside0.mk (below_drew1 HB.out)
             refine start_ (n := 13) (S := fun w' => True) (ds := []) (mk_ 0 13) (by kernel_rfl) rfl rfl trivial (fun hHeld => ?_); refine with_tabW r9_Write.tab7 r9_Write.bits7 (fun HT_ HW_ => ?_)
             generalize wc.drew = w36 at BK365 HB hHeld ⊢
             refine zp (i := 0) (N := some 32) (mk_ 1 13) HT_.out ?_
             refine zp (i := 1) (N := some 33) (mk_ 2 13) HT_.out ?_
             refine zp (i := 4) (N := some 36) #[true, true, false, false, true, false, false, false, false, false, false, false, false] HT_.out ?_
             refine zp (i := 6) (N := some 38) #[true, true, false, false, true, false, true, false, false, false, false, false, false] HT_.out ?_
             refine inv_at [2, 3, 5, 7, 8, 9, 10, 11, 12] (fun a0_ b a w' => ∃ (v381 : Value), a = putSel a0_ b [(2, 34, .slice A0_4 l0_4.length c0_4), (3, 35, .string t379), (5, 37, .int .i64 a0_5), (7, 39, .int .i64 a0_6), (8, 40, v381), (9, 41, .string t383), (10, 42, .string (t379 ++ t383)), (11, 43, .string (x4_3 ++ (t379 ++ t383))), (12, 4, .string (x4_3 ++ (t379 ++ t383)))] ∧ (w'.heap[gb365]? = some (.cells #[.int .i64 a0_0, .int .i64 a0_1, .int .i64 a0_2, .int .i64 a0_3, .slice A0_4 l0_4.length c0_4, .int .i64 a0_5, .int .i64 a0_6, .slice A0_7 l0_7.length c0_7, .int .i64 a0_8] 25 (0, 0))) ∧ (Below w.heap.size w w') ∧ (b 8 = true → Kd.R (Kd.int .i64) 3 w' w.heap.size (fun _ => True) v381 y380)) HT_.out HW_.out (by kernel_rfl) (by kernel_rfl) ?_ ?_ ?_
             · exact ⟨.bool false, by simp only [putSel, Bool.false_eq_true, if_false], BK365.out, HB.out, fun h_ => absurd h_ (by decide)⟩
             · skip
               clear BK365 HB
               refine steps_cons ?_ ?_
               · rintro b a w' ⟨v381, ha, Q_BK365, Q_HB, Q_HO382⟩ hb_ hon hoff
                 refine ⟨_, rfl, fun K hK => ?_⟩
                 have e33 : a.tmps[33]? = some (.pointer (some ⟨gb365, 4, none⟩)) := by rw [ha]; exact (putSel_off rfl).trans rfl
                 replace ha := Aside0.mk ha
                 have BK365 := Aside0.mk Q_BK365
                 have HB := Aside0.mk Q_HB
                 have hc0_ : w'.cell? ⟨gb365, 0, none⟩ = some (.int .i64 a0_0) := (blk_cell BK365.out 0).trans rfl
                 have hc1_ : w'.cell? ⟨gb365, 1, none⟩ = some (.int .i64 a0_1) := (blk_cell BK365.out 1).trans rfl
                 have hc2_ : w'.cell? ⟨gb365, 2, none⟩ = some (.int .i64 a0_2) := (blk_cell BK365.out 2).trans rfl
                 have hc3_ : w'.cell? ⟨gb365, 3, none⟩ = some (.int .i64 a0_3) := (blk_cell BK365.out 3).trans rfl
                 have hc4_ : w'.cell? ⟨gb365, 4, none⟩ = some (.slice A0_4 l0_4.length c0_4) := (blk_cell BK365.out 4).trans rfl
                 have hc5_ : w'.cell? ⟨gb365, 5, none⟩ = some (.int .i64 a0_5) := (blk_cell BK365.out 5).trans rfl
                 have hc6_ : w'.cell? ⟨gb365, 6, none⟩ = some (.int .i64 a0_6) := (blk_cell BK365.out 6).trans rfl
                 have hc7_ : w'.cell? ⟨gb365, 7, none⟩ = some (.slice A0_7 l0_7.length c0_7) := (blk_cell BK365.out 7).trans rfl
                 have hc8_ : w'.cell? ⟨gb365, 8, none⟩ = some (.int .i64 a0_8) := (blk_cell BK365.out 8).trans rfl
                 refine value_ (w1 := w') (v := .slice A0_4 l0_4.length c0_4) (by rfl) rfl ?_ ?_
                 · go_simp
                   (try simp only [i64_w])
                   try rfl
                 refine hK.out _ _ ⟨v381, (by rw [ha.out]; exact putSel_upk 0 hb_ rfl rfl rfl), Q_BK365, Q_HB, Q_HO382⟩
               refine steps_cons ?_ ?_
               · rintro b a w' ⟨v381, ha, Q_BK365, Q_HB, Q_HO382⟩ hb_ hon hoff
                 refine ⟨_, rfl, fun K hK => ?_⟩
                 have e34 : a.tmps[34]? = some (.slice A0_4 l0_4.length c0_4) := by rw [ha]; exact putSel_on (e := (2, 34, .slice A0_4 l0_4.length c0_4)) 0 rfl rfl (hon 2 (by kernel_rfl)) rfl
                 replace ha := Aside0.mk ha
                 have BK365 := Aside0.mk Q_BK365
                 have HB := Aside0.mk Q_HB
                 refine goes_ Try.func27 (by kernel_rfl) rfl #[.int .i64 2, .slice A0_4 l0_4.length c0_4] (by rfl) rfl rfl (by first | (simp only [List.map_toArray, List.map_cons, List.map_nil, Act.eval, Array.getD_eq_getD_getElem?, Option.getD_some, e34]; done) | (simp only [List.map_toArray, List.map_cons, List.map_nil, Act.eval, Array.getD_eq_getD_getElem?, Option.getD_some, e34]; rfl)) ?_
                 with_reducible refine (r9_bytes.calls kj3 2 _ _ l0_4 t379 _ ?side1 ?side2 A32.out).mono ?_
                 (case side1 => exact zc (Kd.C_below HR0_4.out HB.out))
                 (case side2 => exact HC0_4.out)
                 rintro e w37 ⟨rfl, hb⟩
                 refine ⟨_, rfl, ?_⟩
                 have n0_ := Aside0.mk (zB BK365.out hb)
                 have n1_ := Aside0.mk (below_step (zh1 HB.out GE365.out) hb)
                 have z_HO382 := fun (h0_ : b 8 = true) => (show Kd.R (Kd.int .i64) 3 w37 w.heap.size (fun _ => True) v381 y380 from by first | exact (Kd.R_below (by (with_reducible repeat (first | apply Kd.R_alloc | apply Kd.R_drewN | apply Kd.R_drew)); exact (Q_HO382 h0_)) hb) | exact Kd.R_mono (Kd.R_below (by (with_reducible repeat (first | apply Kd.R_alloc | apply Kd.R_drewN | apply Kd.R_drew)); exact (Q_HO382 h0_)) hb) (fun _ h_ => by first | trivial | exact h_ | exact h_.1))
                 clear BK365; clear HB
                 have BK365 := n0_
                 have HB := n1_
                 clear n0_ n1_
                 (try clear hb); (try clear hb2)
                 (try clear hk); (try clear hi)
                 refine hK.out _ _ ⟨v381, (by rw [ha.out]; exact putSel_upk 1 hb_ rfl rfl rfl), (zb BK365.out), (zh1 HB.out GE365.out), z_HO382⟩
               refine steps_cons ?_ ?_
               · rintro b a w' ⟨v381, ha, Q_BK365, Q_HB, Q_HO382⟩ hb_ hon hoff
                 refine ⟨_, rfl, fun K hK => ?_⟩
                 have e36 : a.tmps[36]? = some (.pointer (some ⟨gb365, 5, none⟩)) := by rw [ha]; exact (putSel_off rfl).trans rfl
                 replace ha := Aside0.mk ha
                 have BK365 := Aside0.mk Q_BK365
                 have HB := Aside0.mk Q_HB
                 have hc0_ : w'.cell? ⟨gb365, 0, none⟩ = some (.int .i64 a0_0) := (blk_cell BK365.out 0).trans rfl
                 have hc1_ : w'.cell? ⟨gb365, 1, none⟩ = some (.int .i64 a0_1) := (blk_cell BK365.out 1).trans rfl
                 have hc2_ : w'.cell? ⟨gb365, 2, none⟩ = some (.int .i64 a0_2) := (blk_cell BK365.out 2).trans rfl
                 have hc3_ : w'.cell? ⟨gb365, 3, none⟩ = some (.int .i64 a0_3) := (blk_cell BK365.out 3).trans rfl
                 have hc4_ : w'.cell? ⟨gb365, 4, none⟩ = some (.slice A0_4 l0_4.length c0_4) := (blk_cell BK365.out 4).trans rfl
                 have hc5_ : w'.cell? ⟨gb365, 5, none⟩ = some (.int .i64 a0_5) := (blk_cell BK365.out 5).trans rfl
                 have hc6_ : w'.cell? ⟨gb365, 6, none⟩ = some (.int .i64 a0_6) := (blk_cell BK365.out 6).trans rfl
                 have hc7_ : w'.cell? ⟨gb365, 7, none⟩ = some (.slice A0_7 l0_7.length c0_7) := (blk_cell BK365.out 7).trans rfl
                 have hc8_ : w'.cell? ⟨gb365, 8, none⟩ = some (.int .i64 a0_8) := (blk_cell BK365.out 8).trans rfl
                 refine value_ (w1 := w') (v := .int .i64 a0_5) (by rfl) rfl ?_ ?_
                 · go_simp
                   (try simp only [i64_w])
                   try rfl
                 refine hK.out _ _ ⟨v381, (by rw [ha.out]; exact putSel_upk 2 hb_ rfl rfl rfl), Q_BK365, Q_HB, fun h0_ => absurd ((hoff 8 (by kernel_rfl)).symm.trans h0_) (by decide)⟩
               refine steps_cons ?_ ?_
               · rintro b a w' ⟨v381, ha, Q_BK365, Q_HB, Q_HO382⟩ hb_ hon hoff
                 refine ⟨_, rfl, fun K hK => ?_⟩
                 have e38 : a.tmps[38]? = some (.pointer (some ⟨gb365, 6, none⟩)) := by rw [ha]; exact (putSel_off rfl).trans rfl
                 replace ha := Aside0.mk ha
                 have BK365 := Aside0.mk Q_BK365
                 have HB := Aside0.mk Q_HB
                 have hc0_ : w'.cell? ⟨gb365, 0, none⟩ = some (.int .i64 a0_0) := (blk_cell BK365.out 0).trans rfl
                 have hc1_ : w'.cell? ⟨gb365, 1, none⟩ = some (.int .i64 a0_1) := (blk_cell BK365.out 1).trans rfl
                 have hc2_ : w'.cell? ⟨gb365, 2, none⟩ = some (.int .i64 a0_2) := (blk_cell BK365.out 2).trans rfl
                 have hc3_ : w'.cell? ⟨gb365, 3, none⟩ = some (.int .i64 a0_3) := (blk_cell BK365.out 3).trans rfl
                 have hc4_ : w'.cell? ⟨gb365, 4, none⟩ = some (.slice A0_4 l0_4.length c0_4) := (blk_cell BK365.out 4).trans rfl
                 have hc5_ : w'.cell? ⟨gb365, 5, none⟩ = some (.int .i64 a0_5) := (blk_cell BK365.out 5).trans rfl
                 have hc6_ : w'.cell? ⟨gb365, 6, none⟩ = some (.int .i64 a0_6) := (blk_cell BK365.out 6).trans rfl
                 have hc7_ : w'.cell? ⟨gb365, 7, none⟩ = some (.slice A0_7 l0_7.length c0_7) := (blk_cell BK365.out 7).trans rfl
                 have hc8_ : w'.cell? ⟨gb365, 8, none⟩ = some (.int .i64 a0_8) := (blk_cell BK365.out 8).trans rfl
                 refine value_ (w1 := w') (v := .int .i64 a0_6) (by rfl) rfl ?_ ?_
                 · go_simp
                   (try simp only [i64_w])
                   try rfl
                 refine hK.out _ _ ⟨v381, (by rw [ha.out]; exact putSel_upk 3 hb_ rfl rfl rfl), Q_BK365, Q_HB, fun h0_ => absurd ((hoff 8 (by kernel_rfl)).symm.trans h0_) (by decide)⟩
               refine steps_cons ?_ ?_
               · rintro b a w' ⟨v381, ha, Q_BK365, Q_HB, Q_HO382⟩ hb_ hon hoff
                 refine ⟨_, rfl, fun K hK => ?_⟩
                 have e37 : a.tmps[37]? = some (.int .i64 a0_5) := by rw [ha]; exact putSel_on (e := (5, 37, .int .i64 a0_5)) 2 rfl rfl (hon 5 (by kernel_rfl)) rfl
                 have e39 : a.tmps[39]? = some (.int .i64 a0_6) := by rw [ha]; exact putSel_on (e := (7, 39, .int .i64 a0_6)) 3 rfl rfl (hon 7 (by kernel_rfl)) rfl
                 replace ha := Aside0.mk ha
                 have BK365 := Aside0.mk Q_BK365
                 have HB := Aside0.mk Q_HB
                 refine Kd.R_lit_step (Kd.int .i64) _ 3 ?hg (N := 40) ?hd (xs := ([a0_5, a0_6] : List Int)) (inner := [.int .i64 a0_5, .int .i64 a0_6]) (ok := fun _ => True) (okp := fun _ => True) ?hr ?hp (fun _ hk => hk) trivial (Below.refl _ _) (Nat.le_refl _) (by simp) ?_; (case hd => rfl); (case hg => rfl); (case hr => first | (go_simp; done) | (go_simp; rfl)); (case hp => exact (Reps.one (show Kd.M (Kd.int .i64) _ _ _ a0_5 [.int .i64 a0_5] from rfl) (Reps.one (show Kd.M (Kd.int .i64) _ _ _ a0_6 [.int .i64 a0_6] from rfl) (Reps.none _ _))))
                 intro v381 w37 ho38 hb hg_ hnew_
                 clear hg_ hnew_
                 (first | rw [← Ny380.out] at ho38 | (simp only [Int.reduceToNat] at ho38; rw [← Ny380.out] at ho38))
                 have HO382 := Aside0.mk (Kd.R_lower ho38 (below_size (zh1 HB.out GE365.out)))
                 replace BK365 := Aside0.mk (zB BK365.out hb)
                 replace HB := Aside0.mk (below_step (zh1 HB.out GE365.out) hb)
                 clear hb ho38
                 refine hK.out _ _ ⟨v381, (by rw [ha.out]; exact putSel_upk 4 hb_ rfl rfl rfl), (zb BK365.out), (zh1 HB.out GE365.out), fun _ => (zr HO382.out)⟩
               refine steps_cons ?_ ?_
               · rintro b a w' ⟨v381, ha, Q_BK365, Q_HB, Q_HO382⟩ hb_ hon hoff
                 refine ⟨_, rfl, fun K hK => ?_⟩
                 have e40 : a.tmps[40]? = some (v381) := by rw [ha]; exact putSel_on (e := (8, 40, v381)) 4 rfl rfl (hon 8 (by kernel_rfl)) rfl
                 replace ha := Aside0.mk ha
                 have BK365 := Aside0.mk Q_BK365
                 have HB := Aside0.mk Q_HB
                 have HO382 := Aside0.mk (Q_HO382 (hon 8 (by kernel_rfl)))
                 obtain ⟨Ao41, co41, eo41⟩ := Kd.R_slice HO382.out
                 (first | subst eo41 | (injection eo41 with f1_ f2_ f3_; have f4_ := f1_.symm; have f5_ := f3_.symm; clear f1_ f2_ f3_; subst f4_; subst f5_))
                 refine goes_ Try.func27 (by kernel_rfl) rfl #[.int .i64 2, .slice Ao41 y380.length co41] (by rfl) rfl rfl (by first | (simp only [List.map_toArray, List.map_cons, List.map_nil, Act.eval, Array.getD_eq_getD_getElem?, Option.getD_some, e40]; done) | (simp only [List.map_toArray, List.map_cons, List.map_nil, Act.eval, Array.getD_eq_getD_getElem?, Option.getD_some, e40]; rfl)) ?_
                 with_reducible refine (r9_bytes.calls kj3 2 _ _ y380 t383 _ ?side1 ?side2 A33.out).mono ?_
                 (case side1 => exact zc ((Kd.R_reads' HO382.out).2.2))
                 (case side2 => exact (Kd.R_reads' HO382.out).2.1)
                 rintro e w42 ⟨rfl, hb⟩
                 refine ⟨_, rfl, ?_⟩
                 replace HO382 := Aside0.mk (zR HO382.out hb)
                 replace BK365 := Aside0.mk (zB BK365.out hb)
                 replace HB := Aside0.mk (below_step (zh1 HB.out GE365.out) hb)
                 (try clear hb); (try clear hb2)
                 (try clear hk); (try clear hi)
                 refine hK.out _ _ ⟨.slice Ao41 y380.length co41, (by rw [ha.out]; exact putSel_upk 5 hb_ rfl rfl rfl), (zb BK365.out), (zh1 HB.out GE365.out), fun _ => (zr HO382.out)⟩
               refine steps_cons ?_ ?_
               · rintro b a w' ⟨v381, ha, Q_BK365, Q_HB, Q_HO382⟩ hb_ hon hoff
                 refine ⟨_, rfl, fun K hK => ?_⟩
                 have e35 : a.tmps[35]? = some (.string t379) := by rw [ha]; exact putSel_on (e := (3, 35, .string t379)) 1 rfl rfl (hon 3 (by kernel_rfl)) rfl
                 have e41 : a.tmps[41]? = some (.string t383) := by rw [ha]; exact putSel_on (e := (9, 41, .string t383)) 5 rfl rfl (hon 9 (by kernel_rfl)) rfl
                 replace ha := Aside0.mk ha
                 have BK365 := Aside0.mk Q_BK365
                 have HB := Aside0.mk Q_HB
                 have HO382 := Aside0.mk (Q_HO382 (hon 8 (by kernel_rfl)))
                 refine value_ (w1 := w') (v := .string (t379 ++ t383)) (by rfl) rfl ?_ ?_
                 · go_simp
                   (try simp only [i64_w])
                   try rfl
                 refine hK.out _ _ ⟨v381, (by rw [ha.out]; exact putSel_upk 6 hb_ rfl rfl rfl), Q_BK365, Q_HB, Q_HO382⟩
               refine steps_cons ?_ ?_
               · rintro b a w' ⟨v381, ha, Q_BK365, Q_HB, Q_HO382⟩ hb_ hon hoff
                 refine ⟨_, rfl, fun K hK => ?_⟩
                 have e32 : a.tmps[32]? = some (.string x4_3) := by rw [ha]; exact (putSel_off rfl).trans rfl
                 have e42 : a.tmps[42]? = some (.string (t379 ++ t383)) := by rw [ha]; exact putSel_on (e := (10, 42, .string (t379 ++ t383))) 6 rfl rfl (hon 10 (by kernel_rfl)) rfl
                 replace ha := Aside0.mk ha
                 have BK365 := Aside0.mk Q_BK365
                 have HB := Aside0.mk Q_HB
                 have HO382 := Aside0.mk (Q_HO382 (hon 8 (by kernel_rfl)))
                 refine value_ (w1 := w') (v := .string (x4_3 ++ (t379 ++ t383))) (by rfl) rfl ?_ ?_
                 · go_simp
                   (try simp only [i64_w])
                   try rfl
                 refine hK.out _ _ ⟨v381, (by rw [ha.out]; exact putSel_upk 7 hb_ rfl rfl rfl), Q_BK365, Q_HB, Q_HO382⟩
               refine steps_cons ?_ ?_
               · rintro b a w' ⟨v381, ha, Q_BK365, Q_HB, Q_HO382⟩ hb_ hon hoff
                 refine ⟨_, rfl, fun K hK => ?_⟩
                 have e43 : a.tmps[43]? = some (.string (x4_3 ++ (t379 ++ t383))) := by rw [ha]; exact putSel_on (e := (11, 43, .string (x4_3 ++ (t379 ++ t383)))) 7 rfl rfl (hon 11 (by kernel_rfl)) rfl
                 replace ha := Aside0.mk ha
                 have BK365 := Aside0.mk Q_BK365
                 have HB := Aside0.mk Q_HB
                 have HO382 := Aside0.mk (Q_HO382 (hon 8 (by kernel_rfl)))
                 refine value_ (w1 := w') (v := .string (x4_3 ++ (t379 ++ t383))) (by rfl) rfl ?_ ?_
                 · go_simp
                   (try simp only [i64_w])
                   try rfl
                 refine hK.out _ _ ⟨v381, (by rw [ha.out]; exact putSel_upk 8 hb_ rfl rfl rfl), Q_BK365, Q_HB, Q_HO382⟩
               exact steps_nil
             rintro b a w42 hall ⟨v381, ha, Q_BK365, Q_HB, Q_HO382⟩
             clear BK365 HB
             have hb2_ := hall 2 (by kernel_rfl)
             have hb3_ := hall 3 (by kernel_rfl)
             have hb5_ := hall 5 (by kernel_rfl)
             have hb7_ := hall 7 (by kernel_rfl)
             have hb8_ := hall 8 (by kernel_rfl)
             have hb9_ := hall 9 (by kernel_rfl)
             have hb10_ := hall 10 (by kernel_rfl)
             have hb11_ := hall 11 (by kernel_rfl)
             have hb12_ := hall 12 (by kernel_rfl)
             subst ha
             simp only [putSel, hb2_, hb3_, hb5_, hb7_, hb8_, hb9_, hb10_, hb11_, hb12_, if_true, Act.put, List.setIfInBounds_toArray, List.set_cons_zero, List.set_cons_succ]
             have BK365 := Aside0.mk Q_BK365
             clear Q_BK365
             have HB := Aside0.mk Q_HB
             clear Q_HB
             have HO382 := Aside0.mk (Q_HO382 hb8_)
             clear Q_HO382
             clear hall hb2_ hb3_ hb5_ hb7_ hb8_ hb9_ hb10_ hb11_ hb12_
             try go_wp2
             go_meet
             case rel => exact ⟨_, (x4_3 ++ (t379 ++ t383)), (zs), H', ⟨by have := HJ3.out; first | omega | exact Nat.le_refl _⟩, ⟨zb BK365.out⟩, ⟨zh1 HB.out GE365.out⟩⟩
           · rw [if_neg c35] at H
             exact absurd H (by simp)
         · rw [if_neg c34] at H
           exact absurd H (by simp)
       · rw [if_neg c31] at H
         have c31b0 : (a0_0 == 1) = false := beq_eq_false_iff_ne.mpr c31
         have c31b1 : (a0_0 != 1) = true := bne_iff_ne.mpr c31
         (first | rw [c31b0] | (simp only [i64_w, i32_w]; rw [c31b0]) | skip)
         have H' := Aside0.mk H
         clear H
         go_wp2
         go_meet
         case rel => exact ⟨_, (x4_3), (zs), H', ⟨by have := HJ3.out; first | omega | exact Nat.le_refl _⟩, ⟨zb BK365.out⟩, ⟨zh1 HB.out GE365.out⟩⟩
      case rest =>
       clear HC29; (try clear c1)
       (try clear c2); (try clear p2)
       (try clear c3); (try clear c4)
       (try clear c5); (try clear c6)
       (try clear c7); (try clear c8)
       (try clear c9); (try clear c9b0)
       (try clear c9b1); (try clear c10)
       (try clear c12); (try clear c12b0)
       (try clear c12b1); (try clear c12b2)
       (try clear c14); (try clear c14b0)
       (try clear c14b1); (try clear c14b2)
       (try clear c27); (try clear c31)
       (try clear c31b0); (try clear c31b1)
       (try clear c34); (try clear c34b0)
       (try clear c34b1); (try clear c34b2)
       (try clear c35); (try clear c35b0)
       (try clear c35b1); (try clear c35b2)
       (try clear hcz30_0); (try clear hcz30_1)
       (try clear hcz30_2); (try clear hcz30_3)
       (try clear hcz30_4); (try clear hcz30_5)
       (try clear hcz30_6); (try clear hcz30_7)
       (try clear hcz30_8); (try clear hcz6_0)
       (try clear hcz6_1); (try clear hcz6_2)
       (try clear hcz6_3); (try clear hcz6_4)
       (try clear hcz6_5); (try clear hcz6_6)
       (try clear hcz6_7); (try clear hcz6_8)
       (try clear hcz8_0); (try clear hcz8_1)
       (try clear hcz8_2); (try clear hcz8_3)
       (try clear hcz8_4); (try clear hcz8_5)
       (try clear hcz8_6); (try clear hcz8_7)
       (try clear hcz8_8); (try clear hfz30_0)
       (try clear hfz30_1); (try clear hfz30_2)
       (try clear hfz30_3); (try clear hfz30_4)
       (try clear hfz30_5); (try clear hfz30_6)
       (try clear hfz30_7); (try clear hfz30_8)
       (try clear hfz6_0); (try clear hfz6_1)
       (try clear hfz6_2); (try clear hfz6_3)
       (try clear hfz6_4); (try clear hfz6_5)
       (try clear hfz6_6); (try clear hfz6_7)
       (try clear hfz6_8); (try clear hfz8_0)
       (try clear hfz8_1); (try clear hfz8_2)
       (try clear hfz8_3); (try clear hfz8_4)
       (try clear hfz8_5); (try clear hfz8_6)
       (try clear hfz8_7); (try clear hfz8_8); (try clear p2)
       obtain ⟨kq, x4_28, rfl, HA, HJ28, BK365, HB⟩ := hcut
       cases kq with
       | zero => exact absurd HA.out (by simp [r9_Write.j1])
       | succ kj28 =>
         have H := HA.out
         clear HA
         simp only [r9_Write.j1] at H
         by_cases c43 : a0_0 = 2
         · rw [if_pos c43] at H
           have c43b0 : (a0_0 == 2) = true := beq_iff_eq.mpr c43
           have c43b1 : (a0_0 != 2) = false := bne_eq_false_iff_eq.mpr c43
           clear c43
           obtain ⟨y384, hy384⟩ : ∃ y_ : List Int, y_ = (([(l0_7.length : Int)] : List Int)) := ⟨_, rfl⟩
           replace H : ((r9_bytes.f kj28 1 y384).bind fun t387 => (if x4_28.size + t387.size ≤ 9223372036854775807 then (r9_Write.l0 kj28 (x4_28 ++ t387) 0 a0_0 a0_1 a0_2 a0_3 l0_4 a0_5 a0_6 l0_7 a0_8) else (none))) = some (r1, r2) := by first | (rw [hy384]; with_reducible exact H) | (have H2_ := (Option.bind_some _ _).symm.trans H; rw [hy384]; with_reducible exact H2_) | (have H2_ := (Option.bind_some _ _).symm.trans H; with_reducible exact H2_) | with_reducible exact H | (rw [hy384]; exact H) | exact H
           have Ny384 := Aside0.mk hy384
           clear hy384
           replace H := Option.bind_eq_some_iff.mp H
           obtain ⟨t387, A440, H⟩ := H
           replace H : (if x4_28.size + t387.size ≤ 9223372036854775807 then (r9_Write.l0 kj28 (x4_28 ++ t387) 0 a0_0 a0_1 a0_2 a0_3 l0_4 a0_5 a0_6 l0_7 a0_8) else (none)) = some (r1, r2) := H
           have A44 := Aside0.mk A440
           clear A440
           by_cases c45 : x4_28.size + t387.size ≤ 9223372036854775807
           · rw [if_pos c45] at H
             have c45b0 := eq_true c45
             have c45b1 : decide (x4_28.size + t387.size ≤ 9223372036854775807) = true := decide_eq_true c45
             try have c45b2 : (9223372036854775807 < x4_28.size + t387.size) = False := eq_false (Nat.not_lt.2 c45)
             have H' := Aside0.mk H
             clear H
             obtain ⟨hcz46_0, hcz46_1, hcz46_2, hcz46_3, hcz46_4, hcz46_5, hcz46_6, hcz46_7, hcz46_8⟩ := cells9 BK365.out
             obtain ⟨hfz46_0, hfz46_1, hfz46_2, hfz46_3, hfz46_4, hfz46_5, hfz46_6, hfz46_7, hfz46_8⟩ := frozen9 BK365.out
             go_wp2_with (first | ((with_reducible refine gate_dst (N := 51) rfl ?_); refine Kd.R_lit (Kd.int .i64) _ 3 ?hg (N := 51) ?hd (xs := ([(l0_7.length : Int)] : List Int)) (inner := [.int .i64 (l0_7.length : Int)]) (ok := fun _ => True) (okp := fun _ => True) ?hr ?hp (fun _ hk => hk) trivial (Below.refl _ _) (Nat.le_refl _) (by simp) ?_; (case hd => rfl); (case hg => rfl); (case hr => first | (go_simp; done) | (go_simp; rfl)); (case hp => exact (Reps.one (show Kd.M (Kd.int .i64) _ _ _ (l0_7.length : Int) [.int .i64 (l0_7.length : Int)] from rfl) (Reps.none _ _))); intro v385 w47 ho48 hb hg_ hnew_; clear hg_ hnew_; (first | rw [← Ny384.out] at ho48 | (simp only [Int.reduceToNat] at ho48; rw [← Ny384.out] at ho48)); have HO386 := Aside0.mk (Kd.R_lower ho48 (below_size (zh1 HB.out GE365.out))); replace BK365 := Aside0.mk (zB BK365.out hb); replace HB := Aside0.mk (below_step (zh1 HB.out GE365.out) hb); clear hb ho48; obtain ⟨Ao49, co49, eo49⟩ := Kd.R_slice HO386.out; subst eo49) | ((with_reducible refine gate_callee (f := 27) rfl ?_); refine zgl (some 52) Try.func27 #[.int .i64 1, .slice Ao49 y384.length co49] ?_; (with_reducible refine (r9_bytes.calls kj28 1 _ _ y384 t387 _ ?side1 ?side2 A44.out).mono ?_); (case side1 => exact zc ((Kd.R_reads' HO386.out).2.2)); (case side2 => exact (Kd.R_reads' HO386.out).2.1); rintro e w50 ⟨rfl, hb⟩; refine ⟨_, rfl, ?_⟩; replace HO386 := Aside0.mk (zR HO386.out hb); replace BK365 := Aside0.mk (zB BK365.out hb); replace HB := Aside0.mk (below_step (zh1 HB.out GE365.out) hb); (try clear hb); (try clear hb2); (try clear hk); (try clear hi)))
             go_loopg [4, 5] kj28 (fun kq v4 v5 w' => ∃ (x4_3 : ByteArray) (x5_3 : Int), v4 = .string x4_3 ∧ v5 = .int .i64 x5_3 ∧ Aside0 (r9_Write.l0 kq x4_3 x5_3 a0_0 a0_1 a0_2 a0_3 l0_4 a0_5 a0_6 l0_7 a0_8 = some (r1, r2)) ∧ Aside0 (kq ≤ kj28) ∧ Aside0 (w'.heap[gb365]? = some (.cells #[.int .i64 a0_0, .int .i64 a0_1, .int .i64 a0_2, .int .i64 a0_3, (.slice A0_4 l0_4.length c0_4), .int .i64 a0_5, .int .i64 a0_6, (.slice A0_7 l0_7.length c0_7), .int .i64 a0_8] 25 (0, 0))) ∧ Aside0 (Below w.heap.size w w'))
             case atStart => exact ⟨(x4_28 ++ t387), (0), (zs), (zs), H', ⟨Nat.le_refl _⟩, ⟨zb BK365.out⟩, ⟨zh1 HB.out GE365.out⟩⟩
             case round =>
              clear H'
              (try clear c1); (try clear c2)
              (try clear p2); (try clear c3)
              (try clear c4); (try clear c5)
              (try clear c6); (try clear c7)
              (try clear c8); (try clear c9)
              (try clear c9b0); (try clear c9b1)
              (try clear c10); (try clear c12)
              (try clear c12b0); (try clear c12b1)
              (try clear c12b2); (try clear c14)
              (try clear c14b0); (try clear c14b1)
              (try clear c14b2); (try clear c27)
              (try clear c31); (try clear c31b0)
              (try clear c31b1); (try clear c34)
              (try clear c34b0); (try clear c34b1)
              (try clear c34b2); (try clear c35)
              (try clear c35b0); (try clear c35b1)
              (try clear c35b2); (try clear c43)
              (try clear c43b0); (try clear c43b1)
              (try clear c45); (try clear c45b0)
              (try clear c45b1); (try clear c45b2)
              (try clear hcz30_0); (try clear hcz30_1)
              (try clear hcz30_2); (try clear hcz30_3)
              (try clear hcz30_4); (try clear hcz30_5)
              (try clear hcz30_6); (try clear hcz30_7)
              (try clear hcz30_8); (try clear hcz46_0)
              (try clear hcz46_1); (try clear hcz46_2)
              (try clear hcz46_3); (try clear hcz46_4)
              (try clear hcz46_5); (try clear hcz46_6)
              (try clear hcz46_7); (try clear hcz46_8)
              (try clear hcz6_0); (try clear hcz6_1)
              (try clear hcz6_2); (try clear hcz6_3)
              (try clear hcz6_4); (try clear hcz6_5)
              (try clear hcz6_6); (try clear hcz6_7)
              (try clear hcz6_8); (try clear hcz8_0)
              (try clear hcz8_1); (try clear hcz8_2)
              (try clear hcz8_3); (try clear hcz8_4)
              (try clear hcz8_5); (try clear hcz8_6)
              (try clear hcz8_7); (try clear hcz8_8)
              (try clear hfz30_0); (try clear hfz30_1)
              (try clear hfz30_2); (try clear hfz30_3)
              (try clear hfz30_4); (try clear hfz30_5)
              (try clear hfz30_6); (try clear hfz30_7)
              (try clear hfz30_8); (try clear hfz46_0)
              (try clear hfz46_1); (try clear hfz46_2)
              (try clear hfz46_3); (try clear hfz46_4)
              (try clear hfz46_5); (try clear hfz46_6)
              (try clear hfz46_7); (try clear hfz46_8)
              (try clear hfz6_0); (try clear hfz6_1)
              (try clear hfz6_2); (try clear hfz6_3)
              (try clear hfz6_4); (try clear hfz6_5)
              (try clear hfz6_6); (try clear hfz6_7)
              (try clear hfz6_8); (try clear hfz8_0)
              (try clear hfz8_1); (try clear hfz8_2)
              (try clear hfz8_3); (try clear hfz8_4)
              (try clear hfz8_5); (try clear hfz8_6)
              (try clear hfz8_7); (try clear hfz8_8); (try clear p2)
              obtain ⟨x4_3, x5_3, rfl, rfl, HA, HK3, BK365, HB⟩ := hrel
              cases gk with
              | zero => exact absurd HA.out (by simp [r9_Write.l0])
              | succ k3 =>
                have H := HA.out
                clear HA
                simp only [r9_Write.l0] at H
                by_cases c51 : x5_3 < 3
                · rw [if_pos c51] at H
                  have c51b0 : decide (x5_3 < 3) = true := decide_eq_true c51
                  clear c51
                  by_cases c52 : x5_3 < (l0_7.length : Int)
                  · rw [if_pos c52] at H
                    have c52b0 : decide (x5_3 < (l0_7.length : Int)) = true := decide_eq_true c52
                    clear c52
                    by_cases c53 : 0 ≤ x5_3
                    · rw [if_pos c53] at H
                      have c53b0 : decide (0 ≤ x5_3) = true := decide_eq_true c53
                      clear c53
                      obtain ⟨y390, hy390⟩ : ∃ y_ : List Int, y_ = (([(rd_T48 l0_7 x5_3).f0, (rd_T48 l0_7 x5_3).f1, (rd_T48 l0_7 x5_3).f2] : List Int)) := ⟨_, rfl⟩
                      replace H : ((r9_bytes.f k3 2 y390).bind fun t393 => (if x4_3.size + t393.size ≤ 9223372036854775807 then (r9_Write.l0 k3 (x4_3 ++ t393) (wrap64 (x5_3 + 1)) a0_0 a0_1 a0_2 a0_3 l0_4 a0_5 a0_6 l0_7 a0_8) else (none))) = some (r1, r2) := by first | (rw [hy390]; with_reducible exact H) | (have H2_ := (Option.bind_some _ _).symm.trans H; rw [hy390]; with_reducible exact H2_) | (have H2_ := (Option.bind_some _ _).symm.trans H; with_reducible exact H2_) | with_reducible exact H | (rw [hy390]; exact H) | exact H
                      have Ny390 := Aside0.mk hy390
                      clear hy390
                      replace H := Option.bind_eq_some_iff.mp H
                      obtain ⟨t393, A540, H⟩ := H
                      replace H : (if x4_3.size + t393.size ≤ 9223372036854775807 then (r9_Write.l0 k3 (x4_3 ++ t393) (wrap64 (x5_3 + 1)) a0_0 a0_1 a0_2 a0_3 l0_4 a0_5 a0_6 l0_7 a0_8) else (none)) = some (r1, r2) := H
                      have A54 := Aside0.mk A540
                      clear A540
                      by_cases c55 : x4_3.size + t393.size ≤ 9223372036854775807
                      · rw [if_pos c55] at H
                        have c55b0 := eq_true c55
                        have c55b1 : decide (x4_3.size + t393.size ≤ 9223372036854775807) = true := decide_eq_true c55
                        try have c55b2 : (9223372036854775807 < x4_3.size + t393.size) = False := eq_false (Nat.not_lt.2 c55)
                        have H' := Aside0.mk H
                        clear H
                        go_wp2_with (first | ((with_reducible refine gate_dst (N := 6) rfl ?_); refine zbx (N := 6) (cs := #[.int .i64 0, .int .i64 0, .int .i64 0]) (t := 48) ?_; intro gb388 hg w56 hbox hb; have BK388 := Aside0.mk (hbox); have GW388 := Aside0.mk ((by rw [hg]; exact (below_size (zh1 HB.out GE365.out)) : w.heap.size ≤ gb388)); have GE388 := GW388; replace HB := Aside0.mk (below_step (zh1 HB.out GE365.out) hb); have NB365_388 := Aside0.mk ((by rw [hg]; exact Nat.ne_of_lt (blk_lt (g := gb365) (o := .cells #[.int .i64 a0_0, .int .i64 a0_1, .int .i64 a0_2, .int .i64 a0_3, .slice A0_4 l0_4.length c0_4, .int .i64 a0_5, .int .i64 a0_6, .slice A0_7 l0_7.length c0_7, .int .i64 a0_8] 25 (0, 0)) (zb BK365.out)) : gb365 ≠ gb388)); have NB388_365 := Aside0.mk ((by rw [hg]; exact Nat.ne_of_gt (blk_lt (g := gb365) (o := .cells #[.int .i64 a0_0, .int .i64 a0_1, .int .i64 a0_2, .int .i64 a0_3, .slice A0_4 l0_4.length c0_4, .int .i64 a0_5, .int .i64 a0_6, .slice A0_7 l0_7.length c0_7, .int .i64 a0_8] 25 (0, 0)) (zb BK365.out)) : gb388 ≠ gb365)); replace BK365 := Aside0.mk (zB BK365.out hb); clear hb hbox hg; have hnb57 := NB365_388.out; have hnc57 := NB388_365.out; obtain ⟨hcz58_0, hcz58_1, hcz58_2, hcz58_3, hcz58_4, hcz58_5, hcz58_6, hcz58_7, hcz58_8⟩ := cells9 BK365.out; obtain ⟨hfz58_0, hfz58_1, hfz58_2, hfz58_3, hfz58_4, hfz58_5, hfz58_6, hfz58_7, hfz58_8⟩ := frozen9 BK365.out; have p389 : 0 ≤ (x5_3 : Int) := zd; have q389 : x5_3 < (l0_7.length : Int) := zd; obtain ⟨ad389, e389, hx389_0, hx389_1, hx389_2⟩ := at_T48 HR0_7.out x5_3 p389 q389; cases e389; replace hx389_0 := pw_cell_below HB.out hx389_0; replace hx389_1 := pw_cell_below HB.out hx389_1; replace hx389_2 := pw_cell_below HB.out hx389_2; replace p389 := eq_true p389; replace q389 := eq_true q389; obtain ⟨hcz59_0, hcz59_1, hcz59_2⟩ := cells3 BK388.out; have hfz59_0 := blk_frozen BK388.out 0; have hfz59_1 := blk_frozen BK388.out 1; have hfz59_2 := blk_frozen BK388.out 2) | ((with_reducible refine gate_dst (N := 75) rfl ?_); refine Kd.R_lit (Kd.int .i64) _ 3 ?hg (N := 75) ?hd (xs := ([(rd_T48 l0_7 x5_3).f0, (rd_T48 l0_7 x5_3).f1, (rd_T48 l0_7 x5_3).f2] : List Int)) (inner := [.int .i64 ((rd_T48 l0_7 x5_3).f0), .int .i64 ((rd_T48 l0_7 x5_3).f1), .int .i64 ((rd_T48 l0_7 x5_3).f2)]) (ok := fun _ => True) (okp := fun _ => True) ?hr ?hp (fun _ hk => hk) trivial (Below.refl _ _) (Nat.le_refl _) (by simp) ?_; (case hd => rfl); (case hg => rfl); (case hr => first | (go_simp; done) | (go_simp; rfl)); (case hp => exact (Reps.one (show Kd.M (Kd.int .i64) _ _ _ ((rd_T48 l0_7 x5_3).f0) [.int .i64 ((rd_T48 l0_7 x5_3).f0)] from rfl) (Reps.one (show Kd.M (Kd.int .i64) _ _ _ ((rd_T48 l0_7 x5_3).f1) [.int .i64 ((rd_T48 l0_7 x5_3).f1)] from rfl) (Reps.one (show Kd.M (Kd.int .i64) _ _ _ ((rd_T48 l0_7 x5_3).f2) [.int .i64 ((rd_T48 l0_7 x5_3).f2)] from rfl) (Reps.none _ _))))); intro v391 w60 ho61 hb hg_ hnew_; clear hg_ hnew_; (first | rw [← Ny390.out] at ho61 | (simp only [Int.reduceToNat] at ho61; rw [← Ny390.out] at ho61)); have HO392 := Aside0.mk (Kd.R_lower ho61 (below_size (zh2 HB.out GE365.out GE388.out))); replace BK365 := Aside0.mk (blk_below (g := gb365) (o := .cells #[.int .i64 a0_0, .int .i64 a0_1, .int .i64 a0_2, .int .i64 a0_3, .slice A0_4 l0_4.length c0_4, .int .i64 a0_5, .int .i64 a0_6, .slice (some ad389) l0_7.length c0_7, .int .i64 a0_8] 25 (0, 0)) (by (with_reducible repeat (first | refine blk_drewN ?_ _ | refine blk_drew ?_ | refine blk_alloc ?_ _)); refine blk_far ?_ NB365_388.out _; (with_reducible repeat (first | refine blk_drewN ?_ _ | refine blk_drew ?_ | refine blk_alloc ?_ _)); refine blk_far ?_ NB365_388.out _; (with_reducible repeat (first | refine blk_drewN ?_ _ | refine blk_drew ?_ | refine blk_alloc ?_ _)); refine blk_far ?_ NB365_388.out _; (with_reducible repeat (first | refine blk_drewN ?_ _ | refine blk_drew ?_ | refine blk_alloc ?_ _)); exact BK365.out) hb); replace BK388 := Aside0.mk (blk_below (g := gb388) (o := .cells #[.int .i64 ((rd_T48 l0_7 x5_3).f0), .int .i64 ((rd_T48 l0_7 x5_3).f1), .int .i64 ((rd_T48 l0_7 x5_3).f2)] 48 (0, 0)) (by (with_reducible repeat (first | refine blk_drewN ?_ _ | refine blk_drew ?_ | refine blk_alloc ?_ _)); refine blk_put (cs := #[.int .i64 ((rd_T48 l0_7 x5_3).f0), .int .i64 ((rd_T48 l0_7 x5_3).f1), .int .i64 0]) ?_ 2 _ rfl; (with_reducible repeat (first | refine blk_drewN ?_ _ | refine blk_drew ?_ | refine blk_alloc ?_ _)); refine blk_put (cs := #[.int .i64 ((rd_T48 l0_7 x5_3).f0), .int .i64 0, .int .i64 0]) ?_ 1 _ rfl; (with_reducible repeat (first | refine blk_drewN ?_ _ | refine blk_drew ?_ | refine blk_alloc ?_ _)); refine blk_put (cs := #[.int .i64 0, .int .i64 0, .int .i64 0]) ?_ 0 _ rfl; (with_reducible repeat (first | refine blk_drewN ?_ _ | refine blk_drew ?_ | refine blk_alloc ?_ _)); exact BK388.out) hb); replace HB := Aside0.mk (below_step (zh2 HB.out GE365.out GE388.out) hb); clear hb ho61; obtain ⟨Ao62, co62, eo62⟩ := Kd.R_slice HO392.out; subst eo62) | ((with_reducible refine gate_callee (f := 27) rfl ?_); refine zgl (some 76) Try.func27 #[.int .i64 2, .slice Ao62 y390.length co62] ?_; (with_reducible refine (r9_bytes.calls k3 2 _ _ y390 t393 _ ?side1 ?side2 A54.out).mono ?_); (case side1 => exact zc ((Kd.R_reads' HO392.out).2.2)); (case side2 => exact (Kd.R_reads' HO392.out).2.1); rintro e w63 ⟨rfl, hb⟩; refine ⟨_, rfl, ?_⟩; replace HO392 := Aside0.mk (zR HO392.out hb); replace BK365 := Aside0.mk (zB BK365.out hb); replace BK388 := Aside0.mk (zB BK388.out hb); replace HB := Aside0.mk (below_step (zh2 HB.out GE365.out GE388.out) hb); (try clear hb); (try clear hb2); (try clear hk); (try clear hi)))
                        go_roundg k3
                        case measure => have := HJ3.out; have := HJ28.out; have := HK3.out; omega
                        case rel => exact ⟨(x4_3 ++ t393), (wrap64 (x5_3 + 1)), (zs), (zs), H', ⟨by have := HJ3.out; have := HJ28.out; have := HK3.out; omega⟩, ⟨zb BK365.out⟩, ⟨zh2 HB.out GE365.out GE388.out⟩⟩
                      · rw [if_neg c55] at H
                        exact absurd H (by simp)
                    · rw [if_neg c53] at H
                      exact absurd H (by simp)
                  · rw [if_neg c52] at H
                    have c52b0 : decide (x5_3 < (l0_7.length : Int)) = false := decide_eq_false c52
                    clear c52
                    obtain ⟨y394, hy394⟩ : ∃ y_ : List Int, y_ = (([0, 0, 0] : List Int)) := ⟨_, rfl⟩
                    replace H : ((r9_bytes.f k3 2 y394).bind fun t397 => (if x4_3.size + t397.size ≤ 9223372036854775807 then (r9_Write.l0 k3 (x4_3 ++ t397) (wrap64 (x5_3 + 1)) a0_0 a0_1 a0_2 a0_3 l0_4 a0_5 a0_6 l0_7 a0_8) else (none))) = some (r1, r2) := by first | (rw [hy394]; with_reducible exact H) | (have H2_ := (Option.bind_some _ _).symm.trans H; rw [hy394]; with_reducible exact H2_) | (have H2_ := (Option.bind_some _ _).symm.trans H; with_reducible exact H2_) | with_reducible exact H | (rw [hy394]; exact H) | exact H
                    have Ny394 := Aside0.mk hy394
                    clear hy394
                    replace H := Option.bind_eq_some_iff.mp H
                    obtain ⟨t397, A640, H⟩ := H
                    replace H : (if x4_3.size + t397.size ≤ 9223372036854775807 then (r9_Write.l0 k3 (x4_3 ++ t397) (wrap64 (x5_3 + 1)) a0_0 a0_1 a0_2 a0_3 l0_4 a0_5 a0_6 l0_7 a0_8) else (none)) = some (r1, r2) := H
                    have A64 := Aside0.mk A640
                    clear A640
                    by_cases c65 : x4_3.size + t397.size ≤ 9223372036854775807
                    · rw [if_pos c65] at H
                      have c65b0 := eq_true c65
                      have c65b1 : decide (x4_3.size + t397.size ≤ 9223372036854775807) = true := decide_eq_true c65
                      try have c65b2 : (9223372036854775807 < x4_3.size + t397.size) = False := eq_false (Nat.not_lt.2 c65)
                      have H' := Aside0.mk H
                      clear H
                      go_wp2_with (first | ((with_reducible refine gate_dst (N := 6) rfl ?_); refine zbx (N := 6) (cs := #[.int .i64 0, .int .i64 0, .int .i64 0]) (t := 48) ?_; intro gb388 hg w66 hbox hb; have BK388 := Aside0.mk (hbox); have GW388 := Aside0.mk ((by rw [hg]; exact (below_size (zh1 HB.out GE365.out)) : w.heap.size ≤ gb388)); have GE388 := GW388; replace HB := Aside0.mk (below_step (zh1 HB.out GE365.out) hb); have NB365_388 := Aside0.mk ((by rw [hg]; exact Nat.ne_of_lt (blk_lt (g := gb365) (o := .cells #[.int .i64 a0_0, .int .i64 a0_1, .int .i64 a0_2, .int .i64 a0_3, .slice A0_4 l0_4.length c0_4, .int .i64 a0_5, .int .i64 a0_6, .slice A0_7 l0_7.length c0_7, .int .i64 a0_8] 25 (0, 0)) (zb BK365.out)) : gb365 ≠ gb388)); have NB388_365 := Aside0.mk ((by rw [hg]; exact Nat.ne_of_gt (blk_lt (g := gb365) (o := .cells #[.int .i64 a0_0, .int .i64 a0_1, .int .i64 a0_2, .int .i64 a0_3, .slice A0_4 l0_4.length c0_4, .int .i64 a0_5, .int .i64 a0_6, .slice A0_7 l0_7.length c0_7, .int .i64 a0_8] 25 (0, 0)) (zb BK365.out)) : gb388 ≠ gb365)); replace BK365 := Aside0.mk (zB BK365.out hb); clear hb hbox hg; have hnb67 := NB365_388.out; have hnc67 := NB388_365.out; obtain ⟨hcz68_0, hcz68_1, hcz68_2, hcz68_3, hcz68_4, hcz68_5, hcz68_6, hcz68_7, hcz68_8⟩ := cells9 BK365.out; obtain ⟨hfz68_0, hfz68_1, hfz68_2, hfz68_3, hfz68_4, hfz68_5, hfz68_6, hfz68_7, hfz68_8⟩ := frozen9 BK365.out; obtain ⟨hcz69_0, hcz69_1, hcz69_2⟩ := cells3 BK388.out; have hfz69_0 := blk_frozen BK388.out 0; have hfz69_1 := blk_frozen BK388.out 1; have hfz69_2 := blk_frozen BK388.out 2) | ((with_reducible refine gate_dst (N := 75) rfl ?_); refine Kd.R_lit (Kd.int .i64) _ 3 ?hg (N := 75) ?hd (xs := ([0, 0, 0] : List Int)) (inner := [.int .i64 0, .int .i64 0, .int .i64 0]) (ok := fun _ => True) (okp := fun _ => True) ?hr ?hp (fun _ hk => hk) trivial (Below.refl _ _) (Nat.le_refl _) (by simp) ?_; (case hd => rfl); (case hg => rfl); (case hr => first | (go_simp; done) | (go_simp; rfl)); (case hp => exact (Reps.one (show Kd.M (Kd.int .i64) _ _ _ 0 [.int .i64 0] from rfl) (Reps.one (show Kd.M (Kd.int .i64) _ _ _ 0 [.int .i64 0] from rfl) (Reps.one (show Kd.M (Kd.int .i64) _ _ _ 0 [.int .i64 0] from rfl) (Reps.none _ _))))); intro v395 w70 ho71 hb hg_ hnew_; clear hg_ hnew_; (first | rw [← Ny394.out] at ho71 | (simp only [Int.reduceToNat] at ho71; rw [← Ny394.out] at ho71)); have HO396 := Aside0.mk (Kd.R_lower ho71 (below_size (zh2 HB.out GE365.out GE388.out))); replace BK365 := Aside0.mk (zB BK365.out hb); replace BK388 := Aside0.mk (zB BK388.out hb); replace HB := Aside0.mk (below_step (zh2 HB.out GE365.out GE388.out) hb); clear hb ho71; obtain ⟨Ao72, co72, eo72⟩ := Kd.R_slice HO396.out; subst eo72) | ((with_reducible refine gate_callee (f := 27) rfl ?_); refine zgl (some 76) Try.func27 #[.int .i64 2, .slice Ao72 y394.length co72] ?_; (with_reducible refine (r9_bytes.calls k3 2 _ _ y394 t397 _ ?side1 ?side2 A64.out).mono ?_); (case side1 => exact zc ((Kd.R_reads' HO396.out).2.2)); (case side2 => exact (Kd.R_reads' HO396.out).2.1); rintro e w73 ⟨rfl, hb⟩; refine ⟨_, rfl, ?_⟩; replace HO396 := Aside0.mk (zR HO396.out hb); replace BK365 := Aside0.mk (zB BK365.out hb); replace BK388 := Aside0.mk (zB BK388.out hb); replace HB := Aside0.mk (below_step (zh2 HB.out GE365.out GE388.out) hb); (try clear hb); (try clear hb2); (try clear hk); (try clear hi)))
                      go_roundg k3
                      case measure => have := HJ3.out; have := HJ28.out; have := HK3.out; omega
                      case rel => exact ⟨(x4_3 ++ t397), (wrap64 (x5_3 + 1)), (zs), (zs), H', ⟨by have := HJ3.out; have := HJ28.out; have := HK3.out; omega⟩, ⟨zb BK365.out⟩, ⟨zh2 HB.out GE365.out GE388.out⟩⟩
                    · rw [if_neg c65] at H
                      exact absurd H (by simp)
                · rw [if_neg c51] at H
                  have c51b0 : decide (x5_3 < 3) = false := decide_eq_false c51
                  clear c51
                  obtain ⟨y398, hy398⟩ : ∃ y_ : List Int, y_ = (([a0_8] : List Int)) := ⟨_, rfl⟩
                  replace H : ((r9_bytes.f k3 2 y398).bind fun t401 => (if x4_3.size + t401.size ≤ 9223372036854775807 then ((r1_Zeros.f (wrap64 (32 - ((x4_3 ++ t401).size : Int)))).bind fun t402 => (if (x4_3 ++ t401).size + t402.size ≤ 9223372036854775807 then (some ((x4_3 ++ t401) ++ t402, 0)) else (none))) else (none))) = some (r1, r2) := by first | (rw [hy398]; with_reducible exact H) | (have H2_ := (Option.bind_some _ _).symm.trans H; rw [hy398]; with_reducible exact H2_) | (have H2_ := (Option.bind_some _ _).symm.trans H; with_reducible exact H2_) | with_reducible exact H | (rw [hy398]; exact H) | exact H
                  have Ny398 := Aside0.mk hy398
                  clear hy398
                  replace H := Option.bind_eq_some_iff.mp H
                  obtain ⟨t401, A740, H⟩ := H
                  replace H : (if x4_3.size + t401.size ≤ 9223372036854775807 then ((r1_Zeros.f (wrap64 (32 - ((x4_3 ++ t401).size : Int)))).bind fun t402 => (if (x4_3 ++ t401).size + t402.size ≤ 9223372036854775807 then (some ((x4_3 ++ t401) ++ t402, 0)) else (none))) else (none)) = some (r1, r2) := H
                  have A74 := Aside0.mk A740
                  clear A740
                  by_cases c75 : x4_3.size + t401.size ≤ 9223372036854775807
                  · rw [if_pos c75] at H
                    have c75b0 := eq_true c75
                    have c75b1 : decide (x4_3.size + t401.size ≤ 9223372036854775807) = true := decide_eq_true c75
                    try have c75b2 : (9223372036854775807 < x4_3.size + t401.size) = False := eq_false (Nat.not_lt.2 c75)
                    replace H := Option.bind_eq_some_iff.mp H
                    obtain ⟨t402, A760, H⟩ := H
                    replace H : (if (x4_3 ++ t401).size + t402.size ≤ 9223372036854775807 then (some ((x4_3 ++ t401) ++ t402, 0)) else (none)) = some (r1, r2) := H
                    have A76 := Aside0.mk A760
                    clear A760
                    by_cases c77 : (x4_3 ++ t401).size + t402.size ≤ 9223372036854775807
                    · rw [if_pos c77] at H
                      have c77b0 := eq_true c77
                      have c77b1 : decide ((x4_3 ++ t401).size + t402.size ≤ 9223372036854775807) = true := decide_eq_true c77
                      have c77n := c77
                      simp only [ByteArray.size_append] at c77n
                      have c77b3 := eq_true c77n
                      have c77b4 := decide_eq_true c77n
                      have c77b5 := eq_false (Nat.not_lt.2 c77n)
                      clear c77n
                      try have c77b2 : (9223372036854775807 < (x4_3 ++ t401).size + t402.size) = False := eq_false (Nat.not_lt.2 c77)
                      simp only [Option.some.injEq, Prod.mk.injEq] at H
                      obtain ⟨rfl, rfl⟩ := H
                      obtain ⟨hcz78_0, hcz78_1, hcz78_2, hcz78_3, hcz78_4, hcz78_5, hcz78_6, hcz78_7, hcz78_8⟩ := cells9 BK365.out
                      obtain ⟨hfz78_0, hfz78_1, hfz78_2, hfz78_3, hfz78_4, hfz78_5, hfz78_6, hfz78_7, hfz78_8⟩ := frozen9 BK365.out
                      have AW_ := Aside0.mk (show r1_Zeros.f (32 - ((x4_3.size : Int) + (t401.size : Int))) = some t402 by have h_ := A76.out; have hz_ := of_eq_true c75b0; rw [show (wrap64 (32 - ((x4_3 ++ t401).size : Int))) = (32 - ((x4_3.size : Int) + (t401.size : Int))) from by rw [ByteArray.size_append]; unfold wrap64; omega] at h_; exact h_)
                      go_wp2_with (first | ((with_reducible refine gate_dst (N := 81) rfl ?_); refine Kd.R_lit (Kd.int .i64) _ 3 ?hg (N := 81) ?hd (xs := ([a0_8] : List Int)) (inner := [.int .i64 a0_8]) (ok := fun _ => True) (okp := fun _ => True) ?hr ?hp (fun _ hk => hk) trivial (Below.refl _ _) (Nat.le_refl _) (by simp) ?_; (case hd => rfl); (case hg => rfl); (case hr => first | (go_simp; done) | (go_simp; rfl)); (case hp => exact (Reps.one (show Kd.M (Kd.int .i64) _ _ _ a0_8 [.int .i64 a0_8] from rfl) (Reps.none _ _))); intro v399 w79 ho80 hb hg_ hnew_; clear hg_ hnew_; (first | rw [← Ny398.out] at ho80 | (simp only [Int.reduceToNat] at ho80; rw [← Ny398.out] at ho80)); have HO400 := Aside0.mk (Kd.R_lower ho80 (below_size (zh1 HB.out GE365.out))); replace BK365 := Aside0.mk (zB BK365.out hb); replace HB := Aside0.mk (below_step (zh1 HB.out GE365.out) hb); clear hb ho80; obtain ⟨Ao81, co81, eo81⟩ := Kd.R_slice HO400.out; subst eo81) | ((with_reducible refine gate_callee (f := 27) rfl ?_); refine zgl (some 82) Try.func27 #[.int .i64 2, .slice Ao81 y398.length co81] ?_; (with_reducible refine (r9_bytes.calls k3 2 _ _ y398 t401 _ ?side1 ?side2 A74.out).mono ?_); (case side1 => exact zc ((Kd.R_reads' HO400.out).2.2)); (case side2 => exact (Kd.R_reads' HO400.out).2.1); rintro e w82 ⟨rfl, hb⟩; refine ⟨_, rfl, ?_⟩; replace HO400 := Aside0.mk (zR HO400.out hb); replace BK365 := Aside0.mk (zB BK365.out hb); replace HB := Aside0.mk (below_step (zh1 HB.out GE365.out) hb); (try clear hb); (try clear hb2); (try clear hk); (try clear hi)) | ((with_reducible refine gate_callee (f := 21) rfl ?_); refine zgl (some 88) Try.func21 #[.int .i64 (32 - ((x4_3.size : Int) + (t401.size : Int)))] ?_; (with_reducible refine (r1_Zeros.calls (32 - ((x4_3.size : Int) + (t401.size : Int))) t402 _ AW_.out).mono ?_); rintro e w83 ⟨rfl, hb⟩; refine ⟨_, rfl, ?_⟩; replace HO400 := Aside0.mk (zR HO400.out hb); replace BK365 := Aside0.mk (zB BK365.out hb); replace HB := Aside0.mk (below_step (zh1 HB.out GE365.out) hb); (try clear hb); (try clear hb2); (try clear hk); (try clear hi)))
                      go_ret2
                      exact ⟨ze, zh1 HB.out GE365.out⟩
                    · rw [if_neg c77] at H
                      exact absurd H (by simp)
                  · rw [if_neg c75] at H
                    exact absurd H (by simp)
           · rw [if_neg c45] at H
             exact absurd H (by simp)
         · rw [if_neg c43] at H
           have c43b0 : (a0_0 == 2) = false := beq_eq_false_iff_ne.mpr c43
           have c43b1 : (a0_0 != 2) = true := bne_iff_ne.mpr c43
           replace H := Option.bind_eq_some_iff.mp H
           obtain ⟨t403, A840, H⟩ := H
           replace H : (if x4_28.size + t403.size ≤ 9223372036854775807 then (some (x4_28 ++ t403, 0)) else (none)) = some (r1, r2) := H
           have A84 := Aside0.mk A840
           clear A840
           by_cases c85 : x4_28.size + t403.size ≤ 9223372036854775807
           · rw [if_pos c85] at H
             have c85b0 := eq_true c85
             have c85b1 : decide (x4_28.size + t403.size ≤ 9223372036854775807) = true := decide_eq_true c85
             try have c85b2 : (9223372036854775807 < x4_28.size + t403.size) = False := eq_false (Nat.not_lt.2 c85)
             simp only [Option.some.injEq, Prod.mk.injEq] at H
             obtain ⟨rfl, rfl⟩ := H
             obtain ⟨hcz86_0, hcz86_1, hcz86_2, hcz86_3, hcz86_4, hcz86_5, hcz86_6, hcz86_7, hcz86_8⟩ := cells9 BK365.out
             obtain ⟨hfz86_0, hfz86_1, hfz86_2, hfz86_3, hfz86_4, hfz86_5, hfz86_6, hfz86_7, hfz86_8⟩ := frozen9 BK365.out
             have AW_ := Aside0.mk (show r1_Zeros.f (32 - (x4_28.size : Int)) = some t403 by have h_ := A84.out; have hz_ := of_eq_true c85b0; rw [show (wrap64 (32 - (x4_28.size : Int))) = (32 - (x4_28.size : Int)) from by unfold wrap64; omega] at h_; exact h_)
             go_wp2_with (first | ((with_reducible refine gate_callee (f := 21) rfl ?_); refine zgl (some 88) Try.func21 #[.int .i64 (32 - (x4_28.size : Int))] ?_; (with_reducible refine (r1_Zeros.calls (32 - (x4_28.size : Int)) t403 _ AW_.out).mono ?_); rintro e w87 ⟨rfl, hb⟩; refine ⟨_, rfl, ?_⟩; replace BK365 := Aside0.mk (zB BK365.out hb); replace HB := Aside0.mk (below_step (zh1 HB.out GE365.out) hb); (try clear hb); (try clear hb2); (try clear hk); (try clear hi)))
             go_ret2
             exact ⟨ze, zh1 HB.out GE365.out⟩
           · rw [if_neg c85] at H
             exact absurd H (by simp)
 · replace c3 := Bool.eq_false_iff.mpr c3
   subst c3
   have H1 : (some ((⟨#[]⟩ : ByteArray), 1)) = some (r1, r2) := by rw [if_neg (show ¬ (false = true) by decide)] at H; exact H
   clear H
   have H := H1
   clear H1
   simp only [Option.some.injEq, Prod.mk.injEq] at H
   obtain ⟨rfl, rfl⟩ := H
   go_enter Try.func10, Try.ntmps10
   go_wp2_with (first | ((with_reducible refine gate_dst (N := 1) rfl ?_); refine zbx (N := 1) (cs := #[.int .i64 a0_0, .int .i64 a0_1, .int .i64 a0_2, .int .i64 a0_3, .slice A0_4 l0_4.length c0_4, .int .i64 a0_5, .int .i64 a0_6, .slice A0_7 l0_7.length c0_7, .int .i64 a0_8]) (t := 25) ?_; intro gb365 hg w88 hbox hb; have BK365 := Aside0.mk (hbox); have GW365 := Aside0.mk ((by rw [hg]; exact (below_size (zh0 HB.out)) : w.heap.size ≤ gb365)); have GE365 := GW365; replace HB := Aside0.mk (below_step (zh0 HB.out) hb); clear hb hbox hg; obtain ⟨hcz89_0, hcz89_1, hcz89_2, hcz89_3, hcz89_4, hcz89_5, hcz89_6, hcz89_7, hcz89_8⟩ := cells9 BK365.out; obtain ⟨hfz89_0, hfz89_1, hfz89_2, hfz89_3, hfz89_4, hfz89_5, hfz89_6, hfz89_7, hfz89_8⟩ := frozen9 BK365.out) | ((with_reducible refine gate_callee (f := 12) rfl ?_); refine zgl (some 8) Try.func12 #[.agg #[.int .i64 a0_0, .int .i64 a0_1, .int .i64 a0_2, .int .i64 a0_3, .slice A0_4 l0_4.length c0_4, .int .i64 a0_5, .int .i64 a0_6, .slice A0_7 l0_7.length c0_7, .int .i64 a0_8]] ?_; (with_reducible refine (r9_Right.calls k a0_0 a0_1 a0_2 a0_3 _ _ l0_4 a0_5 a0_6 _ _ l0_7 a0_8 false _ ?side1 ?side2 ?side3 ?side4 A2.out).mono ?_); (case side1 => exact zc (Kd.C_below HR0_4.out HB.out)); (case side2 => exact HC0_4.out); (case side3 => exact zc (Kd.C_below HR0_7.out HB.out)); (case side4 => exact HC0_7.out); rintro e w90 ⟨rfl, hb⟩; refine ⟨_, rfl, ?_⟩; replace BK365 := Aside0.mk (zB BK365.out hb); replace HB := Aside0.mk (below_step (zh1 HB.out GE365.out) hb); (try clear hb); (try clear hb2); (try clear hk); (try clear hi)))
   go_ret2
   exact ⟨ze, zh1 HB.out GE365.out⟩

end Go.Proofs.Ytgigoogekimgkaa.GCrd
