/- printed for this claim by gprint.py, a program of this session, that drives the kit's printer. -/
import Derived.Test.YtgigoogekimgkaaGCrdx0
import Derived.Test.YtgigoogekimgkaaZ
import Derived.Test.YtgigoogekimgkaaGCrdx12
import Derived.Test.YtgigoogekimgkaaGCrdx13
namespace Go.Proofs.Ytgigoogekimgkaa.GCrd
open Go.RowKit Go.Proofs.YtgigoogekimgkaaW.PrintWords Go.Proofs.YtgigoogekimgkaaW.PrintLast Go.Proofs.YtgigoogekimgkaaW.PrintMore
attribute [local go_sem] max2_int min2_int max_two min_two max_three min_three max_four min_four   -- for this text's walks alone
set_option linter.unusedVariables false
set_option linter.unusedSimpArgs false

/-! ### r9_Right: function 12 -/
mutual
def r9_Right.j0 : Nat → Bool → Int → Int → Int → Int → List Int → Int → Int → List (S48) → Int → Option (Bool)
 | 0, _, _, _, _, _, _, _, _, _, _ => none
 | k + 1, x29, x337000, x337001, x337002, x337003, x337004, x337005, x337006, x337007, x337008 => if x29 = true then (some false) else (if x337000 = 1 then (r9_Right.l0 k 0 x337000 x337001 x337002 x337003 x337004 x337005 x337006 x337007 x337008) else (if x337000 = 2 then (if x337003 ≤ 15360 then (if (x337004.length : Int) = 0 then (if x337005 = 0 then (if x337006 = 0 then (if (x337007.length : Int) ≤ 3 then ((r4_Right.f k x337007).bind fun t342 => (if t342 = true then ((r9_small.f x337008).bind fun t343 => (if t343 = true then (if x337008 = 0 then (some true) else (some ((x337007.length : Int) == 3))) else (some false))) else (some false))) else (some false)) else (some false)) else (some false)) else (some false)) else (some false)) else (some false)))
def r9_Right.l0 : Nat → Int → Int → Int → Int → Int → List Int → Int → Int → List (S48) → Int → Option (Bool)
 | 0, _, _, _, _, _, _, _, _, _, _ => none
 | k + 1, x3, x337000, x337001, x337002, x337003, x337004, x337005, x337006, x337007, x337008 => if x3 < (x337004.length : Int) then (if 0 ≤ x3 then ((r9_small.f (rd x337004 x3)).bind fun t339 => (if t339 = true then (r9_Right.l0 k (wrap64 (x3 + 1)) x337000 x337001 x337002 x337003 x337004 x337005 x337006 x337007 x337008) else (some false))) else (none)) else (if x337003 ≤ 9728 then (if (x337004.length : Int) = 4 then ((r9_small.f x337005).bind fun t340 => (if t340 = true then ((r9_small.f x337006).bind fun t341 => (if t341 = true then (if (x337007.length : Int) = 0 then (some (x337008 == 0)) else (some false)) else (some false))) else (some false))) else (some false)) else (some false))
end
def r9_Right.f (k : Nat) (a0_0 : Int) (a0_1 : Int) (a0_2 : Int) (a0_3 : Int) (l0_4 : List Int) (a0_5 : Int) (a0_6 : Int) (l0_7 : List (S48)) (a0_8 : Int) : Option (Bool) := (r9_Same.f k a0_0 a0_1 a0_2 a0_3 l0_4 a0_5 a0_6 l0_7 a0_8 0 0 0 0 ([] : List Int) 0 0 ([] : List (S48)) 0).bind fun t337 => (if t337 = true then (some true) else (if a0_1 = 1 then (if a0_2 < 1 then (r9_Right.j0 k true a0_0 a0_1 a0_2 a0_3 l0_4 a0_5 a0_6 l0_7 a0_8) else (if a0_2 > 200 then (r9_Right.j0 k true a0_0 a0_1 a0_2 a0_3 l0_4 a0_5 a0_6 l0_7 a0_8) else (r9_Right.j0 k (decide (a0_3 < 0)) a0_0 a0_1 a0_2 a0_3 l0_4 a0_5 a0_6 l0_7 a0_8))) else (if a0_1 = 2 then (if a0_2 < 1 then (r9_Right.j0 k true a0_0 a0_1 a0_2 a0_3 l0_4 a0_5 a0_6 l0_7 a0_8) else (if a0_2 > 200 then (r9_Right.j0 k true a0_0 a0_1 a0_2 a0_3 l0_4 a0_5 a0_6 l0_7 a0_8) else (r9_Right.j0 k (decide (a0_3 < 0)) a0_0 a0_1 a0_2 a0_3 l0_4 a0_5 a0_6 l0_7 a0_8))) else (r9_Right.j0 k true a0_0 a0_1 a0_2 a0_3 l0_4 a0_5 a0_6 l0_7 a0_8))))
theorem r9_Right.mono_l : ∀ k, (∀ y0 y1 y2 y3 y4 y5 y6 y7 y8 y9, LeO (r9_Right.j0 k y0 y1 y2 y3 y4 y5 y6 y7 y8 y9) (r9_Right.j0 (k + 1) y0 y1 y2 y3 y4 y5 y6 y7 y8 y9)) ∧ (∀ y0 y1 y2 y3 y4 y5 y6 y7 y8 y9, LeO (r9_Right.l0 k y0 y1 y2 y3 y4 y5 y6 y7 y8 y9) (r9_Right.l0 (k + 1) y0 y1 y2 y3 y4 y5 y6 y7 y8 y9))
 | 0 => ⟨fun _ _ _ _ _ _ _ _ _ _ r h => by simp [r9_Right.j0] at h, fun _ _ _ _ _ _ _ _ _ _ r h => by simp [r9_Right.l0] at h⟩
 | k + 1 => by
   obtain ⟨ih0, ih1⟩ := r9_Right.mono_l k
   refine ⟨?_, ?_⟩
   · intro y0 y1 y2 y3 y4 y5 y6 y7 y8 y9
     unfold r9_Right.j0
     repeat' first
     | (with_reducible exact ih0 _ _ _ _ _ _ _ _ _ _)
     | (with_reducible exact ih1 _ _ _ _ _ _ _ _ _ _)
     | (with_reducible exact r4_Right.mono _ _)
     | (with_reducible exact r9_Same.mono _ _ _ _ _ _ _ _ _ _ _ _ _ _ _ _ _ _ _)
     | (with_reducible exact LeO.refl _)
     | (with_reducible exact LeO.none _)
     | (with_reducible refine LeO.ite ?_ ?_)
     | (with_reducible refine LeO.bind ?_ (fun _ => ?_))
     | exact ih0 _ _ _ _ _ _ _ _ _ _
     | exact ih1 _ _ _ _ _ _ _ _ _ _
     | exact r4_Right.mono _ _
     | exact r9_Same.mono _ _ _ _ _ _ _ _ _ _ _ _ _ _ _ _ _ _ _
     | exact LeO.none _
     | refine LeO.ite ?_ ?_
     | refine LeO.bind ?_ (fun _ => ?_)
   · intro y0 y1 y2 y3 y4 y5 y6 y7 y8 y9
     unfold r9_Right.l0
     repeat' first
     | (with_reducible exact ih0 _ _ _ _ _ _ _ _ _ _)
     | (with_reducible exact ih1 _ _ _ _ _ _ _ _ _ _)
     | (with_reducible exact r4_Right.mono _ _)
     | (with_reducible exact r9_Same.mono _ _ _ _ _ _ _ _ _ _ _ _ _ _ _ _ _ _ _)
     | (with_reducible exact LeO.refl _)
     | (with_reducible exact LeO.none _)
     | (with_reducible refine LeO.ite ?_ ?_)
     | (with_reducible refine LeO.bind ?_ (fun _ => ?_))
     | exact ih0 _ _ _ _ _ _ _ _ _ _
     | exact ih1 _ _ _ _ _ _ _ _ _ _
     | exact r4_Right.mono _ _
     | exact r9_Same.mono _ _ _ _ _ _ _ _ _ _ _ _ _ _ _ _ _ _ _
     | exact LeO.none _
     | refine LeO.ite ?_ ?_
     | refine LeO.bind ?_ (fun _ => ?_)
theorem r9_Right.mono : ∀ a0 a1 a2 a3 a4 a5 a6 a7 a8 k, LeO (r9_Right.f k a0 a1 a2 a3 a4 a5 a6 a7 a8) (r9_Right.f (k + 1) a0 a1 a2 a3 a4 a5 a6 a7 a8) := by
 intro a0 a1 a2 a3 a4 a5 a6 a7 a8 k
 obtain ⟨ih0, ih1⟩ := r9_Right.mono_l k
 unfold r9_Right.f
 repeat' first
  | (with_reducible exact ih0 _ _ _ _ _ _ _ _ _ _)
  | (with_reducible exact ih1 _ _ _ _ _ _ _ _ _ _)
  | (with_reducible exact r4_Right.mono _ _)
  | (with_reducible exact r9_Same.mono _ _ _ _ _ _ _ _ _ _ _ _ _ _ _ _ _ _ _)
  | (with_reducible exact LeO.refl _)
  | (with_reducible exact LeO.none _)
  | (with_reducible refine LeO.ite ?_ ?_)
  | (with_reducible refine LeO.bind ?_ (fun _ => ?_))
  | exact ih0 _ _ _ _ _ _ _ _ _ _
  | exact ih1 _ _ _ _ _ _ _ _ _ _
  | exact r4_Right.mono _ _
  | exact r9_Same.mono _ _ _ _ _ _ _ _ _ _ _ _ _ _ _ _ _ _ _
  | exact LeO.none _
  | refine LeO.ite ?_ ?_
  | refine LeO.bind ?_ (fun _ => ?_)
set_option maxHeartbeats 8000000 in
set_option maxRecDepth 100000 in
theorem r9_Right.calls (k : Nat) (a0_0 : Int) (a0_1 : Int) (a0_2 : Int) (a0_3 : Int) (A0_4 : Option Addr) (c0_4 : Nat) (l0_4 : List Int) (a0_5 : Int) (a0_6 : Int) (A0_7 : Option Addr) (c0_7 : Nat) (l0_7 : List (S48)) (a0_8 : Int) (r : Bool) (w : World) (hr0_4 : Kd.C (Kd.int .i64) w A0_4 l0_4.length l0_4) (hc0_4 : l0_4.length ≤ c0_4) (hr0_7 : Kd.C k48 w A0_7 l0_7.length l0_7) (hc0_7 : l0_7.length ≤ c0_7) (h : r9_Right.f k a0_0 a0_1 a0_2 a0_3 l0_4 a0_5 a0_6 l0_7 a0_8 = some r) :
 Calls Try.prog 12 #[.agg #[.int .i64 a0_0, .int .i64 a0_1, .int .i64 a0_2, .int .i64 a0_3, .slice A0_4 l0_4.length c0_4, .int .i64 a0_5, .int .i64 a0_6, .slice A0_7 l0_7.length c0_7, .int .i64 a0_8]] w fun e w' => e = .returned (.bool r) ∧ Below w.heap.size w w' := by
 have hu25 := Try.underlying25
 have HR0_4 := Aside0.mk hr0_4
 have HC0_4 := Aside0.mk hc0_4
 clear hr0_4 hc0_4
 have HR0_7 := Aside0.mk hr0_7
 have HC0_7 := Aside0.mk hc0_7
 clear hr0_7 hc0_7
 have HB := Aside0.mk (Below.refl w.heap.size w)
 have H : ((r9_Same.f k a0_0 a0_1 a0_2 a0_3 l0_4 a0_5 a0_6 l0_7 a0_8 0 0 0 0 ([] : List Int) 0 0 ([] : List (S48)) 0).bind fun t337 => (if t337 = true then (some true) else (if a0_1 = 1 then (if a0_2 < 1 then (r9_Right.j0 k true a0_0 a0_1 a0_2 a0_3 l0_4 a0_5 a0_6 l0_7 a0_8) else (if a0_2 > 200 then (r9_Right.j0 k true a0_0 a0_1 a0_2 a0_3 l0_4 a0_5 a0_6 l0_7 a0_8) else (r9_Right.j0 k (decide (a0_3 < 0)) a0_0 a0_1 a0_2 a0_3 l0_4 a0_5 a0_6 l0_7 a0_8))) else (if a0_1 = 2 then (if a0_2 < 1 then (r9_Right.j0 k true a0_0 a0_1 a0_2 a0_3 l0_4 a0_5 a0_6 l0_7 a0_8) else (if a0_2 > 200 then (r9_Right.j0 k true a0_0 a0_1 a0_2 a0_3 l0_4 a0_5 a0_6 l0_7 a0_8) else (r9_Right.j0 k (decide (a0_3 < 0)) a0_0 a0_1 a0_2 a0_3 l0_4 a0_5 a0_6 l0_7 a0_8))) else (r9_Right.j0 k true a0_0 a0_1 a0_2 a0_3 l0_4 a0_5 a0_6 l0_7 a0_8))))) = some r := h
 clear h
 replace H := Option.bind_eq_some_iff.mp H
 obtain ⟨t337, A20, H⟩ := H
 replace H : (if t337 = true then (some true) else (if a0_1 = 1 then (if a0_2 < 1 then (r9_Right.j0 k true a0_0 a0_1 a0_2 a0_3 l0_4 a0_5 a0_6 l0_7 a0_8) else (if a0_2 > 200 then (r9_Right.j0 k true a0_0 a0_1 a0_2 a0_3 l0_4 a0_5 a0_6 l0_7 a0_8) else (r9_Right.j0 k (decide (a0_3 < 0)) a0_0 a0_1 a0_2 a0_3 l0_4 a0_5 a0_6 l0_7 a0_8))) else (if a0_1 = 2 then (if a0_2 < 1 then (r9_Right.j0 k true a0_0 a0_1 a0_2 a0_3 l0_4 a0_5 a0_6 l0_7 a0_8) else (if a0_2 > 200 then (r9_Right.j0 k true a0_0 a0_1 a0_2 a0_3 l0_4 a0_5 a0_6 l0_7 a0_8) else (r9_Right.j0 k (decide (a0_3 < 0)) a0_0 a0_1 a0_2 a0_3 l0_4 a0_5 a0_6 l0_7 a0_8))) else (r9_Right.j0 k true a0_0 a0_1 a0_2 a0_3 l0_4 a0_5 a0_6 l0_7 a0_8)))) = some r := H
 have A2 := Aside0.mk A20
 clear A20
 by_cases c3 : t337 = true
 · subst c3
   have H1 : (some true) = some r := by rw [if_pos rfl] at H; exact H
   clear H
   have H := H1
   clear H1
   obtain rfl := Option.some.inj H
   go_enter Try.func12, Try.ntmps12
   go_wp2_with (first | ((with_reducible refine gate_dst (N := 1) rfl ?_); (try (refine gate_guard (by rfl) ?_; dsimp only)); refine zbx (N := 1) (cs := #[.int .i64 a0_0, .int .i64 a0_1, .int .i64 a0_2, .int .i64 a0_3, .slice A0_4 l0_4.length c0_4, .int .i64 a0_5, .int .i64 a0_6, .slice A0_7 l0_7.length c0_7, .int .i64 a0_8]) (t := 25) ?_; intro gb336 hg w4 hbox hb; have BK336 := Aside0.mk (hbox); have GW336 := Aside0.mk ((by rw [hg]; exact (below_size (zh0 HB.out)) : w.heap.size ≤ gb336)); have GE336 := GW336; replace HB := Aside0.mk (below_step (zh0 HB.out) hb); clear hb hbox hg; obtain ⟨hcz5_0, hcz5_1, hcz5_2, hcz5_3, hcz5_4, hcz5_5, hcz5_6, hcz5_7, hcz5_8⟩ := cells9 BK336.out; obtain ⟨hfz5_0, hfz5_1, hfz5_2, hfz5_3, hfz5_4, hfz5_5, hfz5_6, hfz5_7, hfz5_8⟩ := frozen9 BK336.out) | ((with_reducible refine gate_callee (f := 15) rfl ?_); refine zgl (some 6) Try.func15 #[.agg #[.int .i64 a0_0, .int .i64 a0_1, .int .i64 a0_2, .int .i64 a0_3, .slice A0_4 l0_4.length c0_4, .int .i64 a0_5, .int .i64 a0_6, .slice A0_7 l0_7.length c0_7, .int .i64 a0_8], .agg #[.int .i64 0, .int .i64 0, .int .i64 0, .int .i64 0, .slice none 0 0, .int .i64 0, .int .i64 0, .slice none 0 0, .int .i64 0]] ?_; (refine (r9_Same.calls k a0_0 a0_1 a0_2 a0_3 _ _ l0_4 a0_5 a0_6 _ _ l0_7 a0_8 0 0 0 0 _ _ ([] : List Int) 0 0 _ _ ([] : List (S48)) 0 true _ ?side1 ?side2 ?side3 ?side4 ?side5 ?side6 ?side7 ?side8 A2.out).mono ?_); (case side1 => exact zc (Kd.C_below HR0_4.out HB.out)); (case side2 => exact HC0_4.out); (case side3 => exact zc (Kd.C_below HR0_7.out HB.out)); (case side4 => exact HC0_7.out); (case side5 => exact Kd.C_nil _ _); (case side6 => exact Nat.le_refl _); (case side7 => exact Kd.C_nil _ _); (case side8 => exact Nat.le_refl _); rintro e w6 ⟨rfl, hb⟩; refine ⟨_, rfl, ?_⟩; replace BK336 := Aside0.mk (zB BK336.out hb); replace HB := Aside0.mk (below_step (zh1 HB.out GE336.out) hb); (try clear hb); (try clear hb2); (try clear hk); (try clear hi)))
   go_ret
   exact ⟨ze, zh1 HB.out GE336.out⟩
 · replace c3 := Bool.eq_false_iff.mpr c3
   subst c3
   have H1 : (if a0_1 = 1 then (if a0_2 < 1 then (r9_Right.j0 k true a0_0 a0_1 a0_2 a0_3 l0_4 a0_5 a0_6 l0_7 a0_8) else (if a0_2 > 200 then (r9_Right.j0 k true a0_0 a0_1 a0_2 a0_3 l0_4 a0_5 a0_6 l0_7 a0_8) else (r9_Right.j0 k (decide (a0_3 < 0)) a0_0 a0_1 a0_2 a0_3 l0_4 a0_5 a0_6 l0_7 a0_8))) else (if a0_1 = 2 then (if a0_2 < 1 then (r9_Right.j0 k true a0_0 a0_1 a0_2 a0_3 l0_4 a0_5 a0_6 l0_7 a0_8) else (if a0_2 > 200 then (r9_Right.j0 k true a0_0 a0_1 a0_2 a0_3 l0_4 a0_5 a0_6 l0_7 a0_8) else (r9_Right.j0 k (decide (a0_3 < 0)) a0_0 a0_1 a0_2 a0_3 l0_4 a0_5 a0_6 l0_7 a0_8))) else (r9_Right.j0 k true a0_0 a0_1 a0_2 a0_3 l0_4 a0_5 a0_6 l0_7 a0_8))) = some r := by rw [if_neg (show ¬ (false = true) by decide)] at H; exact H
   clear H
   have H := H1
   clear H1
   have HC7 := Aside0.mk H
   clear H
   go_enter Try.func12, Try.ntmps12
   go_upto_region 3 with (first | ((with_reducible refine gate_dst (N := 1) rfl ?_); (try (refine gate_guard (by rfl) ?_; dsimp only)); refine zbx (N := 1) (cs := #[.int .i64 a0_0, .int .i64 a0_1, .int .i64 a0_2, .int .i64 a0_3, .slice A0_4 l0_4.length c0_4, .int .i64 a0_5, .int .i64 a0_6, .slice A0_7 l0_7.length c0_7, .int .i64 a0_8]) (t := 25) ?_; intro gb336 hg w8 hbox hb; have BK336 := Aside0.mk (hbox); have GW336 := Aside0.mk ((by rw [hg]; exact (below_size (zh0 HB.out)) : w.heap.size ≤ gb336)); have GE336 := GW336; replace HB := Aside0.mk (below_step (zh0 HB.out) hb); clear hb hbox hg; obtain ⟨hcz9_0, hcz9_1, hcz9_2, hcz9_3, hcz9_4, hcz9_5, hcz9_6, hcz9_7, hcz9_8⟩ := cells9 BK336.out; obtain ⟨hfz9_0, hfz9_1, hfz9_2, hfz9_3, hfz9_4, hfz9_5, hfz9_6, hfz9_7, hfz9_8⟩ := frozen9 BK336.out) | ((with_reducible refine gate_callee (f := 15) rfl ?_); refine zgl (some 6) Try.func15 #[.agg #[.int .i64 a0_0, .int .i64 a0_1, .int .i64 a0_2, .int .i64 a0_3, .slice A0_4 l0_4.length c0_4, .int .i64 a0_5, .int .i64 a0_6, .slice A0_7 l0_7.length c0_7, .int .i64 a0_8], .agg #[.int .i64 0, .int .i64 0, .int .i64 0, .int .i64 0, .slice none 0 0, .int .i64 0, .int .i64 0, .slice none 0 0, .int .i64 0]] ?_; (refine (r9_Same.calls k a0_0 a0_1 a0_2 a0_3 _ _ l0_4 a0_5 a0_6 _ _ l0_7 a0_8 0 0 0 0 _ _ ([] : List Int) 0 0 _ _ ([] : List (S48)) 0 false _ ?side1 ?side2 ?side3 ?side4 ?side5 ?side6 ?side7 ?side8 A2.out).mono ?_); (case side1 => exact zc (Kd.C_below HR0_4.out HB.out)); (case side2 => exact HC0_4.out); (case side3 => exact zc (Kd.C_below HR0_7.out HB.out)); (case side4 => exact HC0_7.out); (case side5 => exact Kd.C_nil _ _); (case side6 => exact Nat.le_refl _); (case side7 => exact Kd.C_nil _ _); (case side8 => exact Nat.le_refl _); rintro e w10 ⟨rfl, hb⟩; refine ⟨_, rfl, ?_⟩; replace BK336 := Aside0.mk (zB BK336.out hb); replace HB := Aside0.mk (below_step (zh1 HB.out GE336.out) hb); (try clear hb); (try clear hb2); (try clear hk); (try clear hi)))
   (try simp only [Act.put, List.setIfInBounds_toArray, List.set_cons_zero, List.set_cons_succ])
   go_cut [29] (fun v29 wc => ∃ (kq : Nat) (x29_6 : Bool), v29 = .bool x29_6 ∧ Aside0 (r9_Right.j0 kq x29_6 a0_0 a0_1 a0_2 a0_3 l0_4 a0_5 a0_6 l0_7 a0_8 = some r) ∧ Aside0 (kq ≤ k) ∧ Aside0 (wc.heap[gb336]? = some (.cells #[.int .i64 a0_0, .int .i64 a0_1, .int .i64 a0_2, .int .i64 a0_3, (.slice A0_4 l0_4.length c0_4), .int .i64 a0_5, .int .i64 a0_6, (.slice A0_7 l0_7.length c0_7), .int .i64 a0_8] 25 (0, 0))) ∧ Aside0 (Below w.heap.size w wc))
   case first =>
    have H := HC7.out
    clear HC7
    by_cases c11 : a0_1 = 1
    · rw [if_pos c11] at H
      have c11b0 : (a0_1 == 1) = true := beq_iff_eq.mpr c11
      have c11b1 : (a0_1 != 1) = false := bne_eq_false_iff_eq.mpr c11
      clear c11
      (first | rw [c11b0] | (simp only [i64_w, i32_w]; rw [c11b0]) | skip)
      by_cases c12 : a0_2 < 1
      · rw [if_pos c12] at H
        have c12b0 : decide (a0_2 < 1) = true := decide_eq_true c12
        clear c12
        have H' := Aside0.mk H
        clear H
        obtain ⟨hcz13_0, hcz13_1, hcz13_2, hcz13_3, hcz13_4, hcz13_5, hcz13_6, hcz13_7, hcz13_8⟩ := cells9 BK336.out
        obtain ⟨hfz13_0, hfz13_1, hfz13_2, hfz13_3, hfz13_4, hfz13_5, hfz13_6, hfz13_7, hfz13_8⟩ := frozen9 BK336.out
        go_wp2
        go_meet
        case rel => exact ⟨_, (true), (zs), H', ⟨zl⟩, ⟨zb BK336.out⟩, ⟨zh1 HB.out GE336.out⟩⟩
      · rw [if_neg c12] at H
        have c12b0 : decide (a0_2 < 1) = false := decide_eq_false c12
        clear c12
        by_cases c14 : a0_2 > 200
        · rw [if_pos c14] at H
          have c14b0 : decide (200 < a0_2) = true := decide_eq_true c14
          clear c14
          have H' := Aside0.mk H
          clear H
          obtain ⟨hcz15_0, hcz15_1, hcz15_2, hcz15_3, hcz15_4, hcz15_5, hcz15_6, hcz15_7, hcz15_8⟩ := cells9 BK336.out
          obtain ⟨hfz15_0, hfz15_1, hfz15_2, hfz15_3, hfz15_4, hfz15_5, hfz15_6, hfz15_7, hfz15_8⟩ := frozen9 BK336.out
          go_wp2
          go_meet
          case rel => exact ⟨_, (true), (zs), H', ⟨zl⟩, ⟨zb BK336.out⟩, ⟨zh1 HB.out GE336.out⟩⟩
        · rw [if_neg c14] at H
          have c14b0 : decide (200 < a0_2) = false := decide_eq_false c14
          clear c14
          have H' := Aside0.mk H
          clear H
          obtain ⟨hcz16_0, hcz16_1, hcz16_2, hcz16_3, hcz16_4, hcz16_5, hcz16_6, hcz16_7, hcz16_8⟩ := cells9 BK336.out
          obtain ⟨hfz16_0, hfz16_1, hfz16_2, hfz16_3, hfz16_4, hfz16_5, hfz16_6, hfz16_7, hfz16_8⟩ := frozen9 BK336.out
          go_wp2
          go_meet
          case rel => exact ⟨_, (decide (a0_3 < 0)), (zs), H', ⟨zl⟩, ⟨zb BK336.out⟩, ⟨zh1 HB.out GE336.out⟩⟩
    · rw [if_neg c11] at H
      have c11b0 : (a0_1 == 1) = false := beq_eq_false_iff_ne.mpr c11
      have c11b1 : (a0_1 != 1) = true := bne_iff_ne.mpr c11
      (first | rw [c11b0] | (simp only [i64_w, i32_w]; rw [c11b0]) | skip)
      by_cases c17 : a0_1 = 2
      · rw [if_pos c17] at H
        have c17b0 : (a0_1 == 2) = true := beq_iff_eq.mpr c17
        have c17b1 : (a0_1 != 2) = false := bne_eq_false_iff_eq.mpr c17
        clear c17
        by_cases c18 : a0_2 < 1
        · rw [if_pos c18] at H
          have c18b0 : decide (a0_2 < 1) = true := decide_eq_true c18
          clear c18
          have H' := Aside0.mk H
          clear H
          obtain ⟨hcz19_0, hcz19_1, hcz19_2, hcz19_3, hcz19_4, hcz19_5, hcz19_6, hcz19_7, hcz19_8⟩ := cells9 BK336.out
          obtain ⟨hfz19_0, hfz19_1, hfz19_2, hfz19_3, hfz19_4, hfz19_5, hfz19_6, hfz19_7, hfz19_8⟩ := frozen9 BK336.out
          go_wp2
          go_meet
          case rel => exact ⟨_, (true), (zs), H', ⟨zl⟩, ⟨zb BK336.out⟩, ⟨zh1 HB.out GE336.out⟩⟩
        · rw [if_neg c18] at H
          have c18b0 : decide (a0_2 < 1) = false := decide_eq_false c18
          clear c18
          by_cases c20 : a0_2 > 200
          · rw [if_pos c20] at H
            have c20b0 : decide (200 < a0_2) = true := decide_eq_true c20
            clear c20
            have H' := Aside0.mk H
            clear H
            obtain ⟨hcz21_0, hcz21_1, hcz21_2, hcz21_3, hcz21_4, hcz21_5, hcz21_6, hcz21_7, hcz21_8⟩ := cells9 BK336.out
            obtain ⟨hfz21_0, hfz21_1, hfz21_2, hfz21_3, hfz21_4, hfz21_5, hfz21_6, hfz21_7, hfz21_8⟩ := frozen9 BK336.out
            go_wp2
            go_meet
            case rel => exact ⟨_, (true), (zs), H', ⟨zl⟩, ⟨zb BK336.out⟩, ⟨zh1 HB.out GE336.out⟩⟩
          · rw [if_neg c20] at H
            have c20b0 : decide (200 < a0_2) = false := decide_eq_false c20
            clear c20
            have H' := Aside0.mk H
            clear H
            obtain ⟨hcz22_0, hcz22_1, hcz22_2, hcz22_3, hcz22_4, hcz22_5, hcz22_6, hcz22_7, hcz22_8⟩ := cells9 BK336.out
            obtain ⟨hfz22_0, hfz22_1, hfz22_2, hfz22_3, hfz22_4, hfz22_5, hfz22_6, hfz22_7, hfz22_8⟩ := frozen9 BK336.out
            go_wp2
            go_meet
            case rel => exact ⟨_, (decide (a0_3 < 0)), (zs), H', ⟨zl⟩, ⟨zb BK336.out⟩, ⟨zh1 HB.out GE336.out⟩⟩
      · rw [if_neg c17] at H
        have c17b0 : (a0_1 == 2) = false := beq_eq_false_iff_ne.mpr c17
        have c17b1 : (a0_1 != 2) = true := bne_iff_ne.mpr c17
        have H' := Aside0.mk H
        clear H
        obtain ⟨hcz23_0, hcz23_1, hcz23_2, hcz23_3, hcz23_4, hcz23_5, hcz23_6, hcz23_7, hcz23_8⟩ := cells9 BK336.out
        obtain ⟨hfz23_0, hfz23_1, hfz23_2, hfz23_3, hfz23_4, hfz23_5, hfz23_6, hfz23_7, hfz23_8⟩ := frozen9 BK336.out
        go_wp2
        go_meet
        case rel => exact ⟨_, (true), (zs), H', ⟨zl⟩, ⟨zb BK336.out⟩, ⟨zh1 HB.out GE336.out⟩⟩
   case rest =>
    clear HC7; (try clear c1)
    (try clear c2); (try clear p2)
    (try clear c3); (try clear c11)
    (try clear c11b0); (try clear c11b1)
    (try clear c12); (try clear c12b0)
    (try clear c14); (try clear c14b0)
    (try clear c15); (try clear c17)
    (try clear c17b0); (try clear c17b1)
    (try clear c18); (try clear c18b0)
    (try clear c20); (try clear c20b0)
    (try clear hcz13_0); (try clear hcz13_1)
    (try clear hcz13_2); (try clear hcz13_3)
    (try clear hcz13_4); (try clear hcz13_5)
    (try clear hcz13_6); (try clear hcz13_7)
    (try clear hcz13_8); (try clear hcz15_0)
    (try clear hcz15_1); (try clear hcz15_2)
    (try clear hcz15_3); (try clear hcz15_4)
    (try clear hcz15_5); (try clear hcz15_6)
    (try clear hcz15_7); (try clear hcz15_8)
    (try clear hcz16_0); (try clear hcz16_1)
    (try clear hcz16_2); (try clear hcz16_3)
    (try clear hcz16_4); (try clear hcz16_5)
    (try clear hcz16_6); (try clear hcz16_7)
    (try clear hcz16_8); (try clear hcz19_0)
    (try clear hcz19_1); (try clear hcz19_2)
    (try clear hcz19_3); (try clear hcz19_4)
    (try clear hcz19_5); (try clear hcz19_6)
    (try clear hcz19_7); (try clear hcz19_8)
    (try clear hcz21_0); (try clear hcz21_1)
    (try clear hcz21_2); (try clear hcz21_3)
    (try clear hcz21_4); (try clear hcz21_5)
    (try clear hcz21_6); (try clear hcz21_7)
    (try clear hcz21_8); (try clear hcz22_0)
    (try clear hcz22_1); (try clear hcz22_2)
    (try clear hcz22_3); (try clear hcz22_4)
    (try clear hcz22_5); (try clear hcz22_6)
    (try clear hcz22_7); (try clear hcz22_8)
    (try clear hcz23_0); (try clear hcz23_1)
    (try clear hcz23_2); (try clear hcz23_3)
    (try clear hcz23_4); (try clear hcz23_5)
    (try clear hcz23_6); (try clear hcz23_7)
    (try clear hcz23_8); (try clear hcz5_0)
    (try clear hcz5_1); (try clear hcz5_2)
    (try clear hcz5_3); (try clear hcz5_4)
    (try clear hcz5_5); (try clear hcz5_6)
    (try clear hcz5_7); (try clear hcz5_8)
    (try clear hcz9_0); (try clear hcz9_1)
    (try clear hcz9_2); (try clear hcz9_3)
    (try clear hcz9_4); (try clear hcz9_5)
    (try clear hcz9_6); (try clear hcz9_7)
    (try clear hcz9_8); (try clear hfz13_0)
    (try clear hfz13_1); (try clear hfz13_2)
    (try clear hfz13_3); (try clear hfz13_4)
    (try clear hfz13_5); (try clear hfz13_6)
    (try clear hfz13_7); (try clear hfz13_8)
    (try clear hfz15_0); (try clear hfz15_1)
    (try clear hfz15_2); (try clear hfz15_3)
    (try clear hfz15_4); (try clear hfz15_5)
    (try clear hfz15_6); (try clear hfz15_7)
    (try clear hfz15_8); (try clear hfz16_0)
    (try clear hfz16_1); (try clear hfz16_2)
    (try clear hfz16_3); (try clear hfz16_4)
    (try clear hfz16_5); (try clear hfz16_6)
    (try clear hfz16_7); (try clear hfz16_8)
    (try clear hfz19_0); (try clear hfz19_1)
    (try clear hfz19_2); (try clear hfz19_3)
    (try clear hfz19_4); (try clear hfz19_5)
    (try clear hfz19_6); (try clear hfz19_7)
    (try clear hfz19_8); (try clear hfz21_0)
    (try clear hfz21_1); (try clear hfz21_2)
    (try clear hfz21_3); (try clear hfz21_4)
    (try clear hfz21_5); (try clear hfz21_6)
    (try clear hfz21_7); (try clear hfz21_8)
    (try clear hfz22_0); (try clear hfz22_1)
    (try clear hfz22_2); (try clear hfz22_3)
    (try clear hfz22_4); (try clear hfz22_5)
    (try clear hfz22_6); (try clear hfz22_7)
    (try clear hfz22_8); (try clear hfz23_0)
    (try clear hfz23_1); (try clear hfz23_2)
    (try clear hfz23_3); (try clear hfz23_4)
    (try clear hfz23_5); (try clear hfz23_6)
    (try clear hfz23_7); (try clear hfz23_8)
    (try clear hfz5_0); (try clear hfz5_1)
    (try clear hfz5_2); (try clear hfz5_3)
    (try clear hfz5_4); (try clear hfz5_5)
    (try clear hfz5_6); (try clear hfz5_7)
    (try clear hfz5_8); (try clear hfz9_0)
    (try clear hfz9_1); (try clear hfz9_2)
    (try clear hfz9_3); (try clear hfz9_4)
    (try clear hfz9_5); (try clear hfz9_6)
    (try clear hfz9_7); (try clear hfz9_8)
    obtain ⟨kq, x29_6, rfl, HA, HJ6, BK336, HB⟩ := hcut
    cases kq with
    | zero => exact absurd HA.out (by simp [r9_Right.j0])
    | succ kj6 =>
      have H := HA.out
      clear HA
      simp only [r9_Right.j0] at H
      by_cases c24 : x29_6 = true
      · subst c24
        have H1 : (some false) = some r := by rw [if_pos rfl] at H; exact H
        clear H
        have H := H1
        clear H1
        obtain rfl := Option.some.inj H
        go_wp2
        go_ret
        exact ⟨ze, zh1 HB.out GE336.out⟩
      · replace c24 := Bool.eq_false_iff.mpr c24
        subst c24
        have H1 : (if a0_0 = 1 then (r9_Right.l0 kj6 0 a0_0 a0_1 a0_2 a0_3 l0_4 a0_5 a0_6 l0_7 a0_8) else (if a0_0 = 2 then (if a0_3 ≤ 15360 then (if (l0_4.length : Int) = 0 then (if a0_5 = 0 then (if a0_6 = 0 then (if (l0_7.length : Int) ≤ 3 then ((r4_Right.f kj6 l0_7).bind fun t342 => (if t342 = true then ((r9_small.f a0_8).bind fun t343 => (if t343 = true then (if a0_8 = 0 then (some true) else (some ((l0_7.length : Int) == 3))) else (some false))) else (some false))) else (some false)) else (some false)) else (some false)) else (some false)) else (some false)) else (some false))) = some r := by rw [if_neg (show ¬ (false = true) by decide)] at H; exact H
        clear H
        have H := H1
        clear H1
        by_cases c25 : a0_0 = 1
        · rw [if_pos c25] at H
          have c25b0 : (a0_0 == 1) = true := beq_iff_eq.mpr c25
          have c25b1 : (a0_0 != 1) = false := bne_eq_false_iff_eq.mpr c25
          clear c25
          have H' := Aside0.mk H
          clear H
          obtain ⟨hcz26_0, hcz26_1, hcz26_2, hcz26_3, hcz26_4, hcz26_5, hcz26_6, hcz26_7, hcz26_8⟩ := cells9 BK336.out
          obtain ⟨hfz26_0, hfz26_1, hfz26_2, hfz26_3, hfz26_4, hfz26_5, hfz26_6, hfz26_7, hfz26_8⟩ := frozen9 BK336.out
          go_wp2
          go_loopg [3] kj6 (fun kq v3 w' => ∃ (x3_2 : Int), v3 = .int .i64 x3_2 ∧ Aside0 (r9_Right.l0 kq x3_2 a0_0 a0_1 a0_2 a0_3 l0_4 a0_5 a0_6 l0_7 a0_8 = some r) ∧ Aside0 (kq ≤ kj6) ∧ Aside0 (w'.heap[gb336]? = some (.cells #[.int .i64 a0_0, .int .i64 a0_1, .int .i64 a0_2, .int .i64 a0_3, (.slice A0_4 l0_4.length c0_4), .int .i64 a0_5, .int .i64 a0_6, (.slice A0_7 l0_7.length c0_7), .int .i64 a0_8] 25 (0, 0))) ∧ Aside0 (Below w.heap.size w w'))
          case atStart => exact ⟨(0), (zs), H', ⟨Nat.le_refl _⟩, ⟨zb BK336.out⟩, ⟨zh1 HB.out GE336.out⟩⟩
          case round =>
           clear H'
           (try clear c1); (try clear c2)
           (try clear p2); (try clear c3)
           (try clear c11); (try clear c11b0)
           (try clear c11b1); (try clear c12)
           (try clear c12b0); (try clear c14)
           (try clear c14b0); (try clear c15)
           (try clear c17); (try clear c17b0)
           (try clear c17b1); (try clear c18)
           (try clear c18b0); (try clear c20)
           (try clear c20b0); (try clear c24)
           (try clear c25); (try clear c25b0)
           (try clear c25b1); (try clear hcz13_0)
           (try clear hcz13_1); (try clear hcz13_2)
           (try clear hcz13_3); (try clear hcz13_4)
           (try clear hcz13_5); (try clear hcz13_6)
           (try clear hcz13_7); (try clear hcz13_8)
           (try clear hcz15_0); (try clear hcz15_1)
           (try clear hcz15_2); (try clear hcz15_3)
           (try clear hcz15_4); (try clear hcz15_5)
           (try clear hcz15_6); (try clear hcz15_7)
           (try clear hcz15_8); (try clear hcz16_0)
           (try clear hcz16_1); (try clear hcz16_2)
           (try clear hcz16_3); (try clear hcz16_4)
           (try clear hcz16_5); (try clear hcz16_6)
           (try clear hcz16_7); (try clear hcz16_8)
           (try clear hcz19_0); (try clear hcz19_1)
           (try clear hcz19_2); (try clear hcz19_3)
           (try clear hcz19_4); (try clear hcz19_5)
           (try clear hcz19_6); (try clear hcz19_7)
           (try clear hcz19_8); (try clear hcz21_0)
           (try clear hcz21_1); (try clear hcz21_2)
           (try clear hcz21_3); (try clear hcz21_4)
           (try clear hcz21_5); (try clear hcz21_6)
           (try clear hcz21_7); (try clear hcz21_8)
           (try clear hcz22_0); (try clear hcz22_1)
           (try clear hcz22_2); (try clear hcz22_3)
           (try clear hcz22_4); (try clear hcz22_5)
           (try clear hcz22_6); (try clear hcz22_7)
           (try clear hcz22_8); (try clear hcz23_0)
           (try clear hcz23_1); (try clear hcz23_2)
           (try clear hcz23_3); (try clear hcz23_4)
           (try clear hcz23_5); (try clear hcz23_6)
           (try clear hcz23_7); (try clear hcz23_8)
           (try clear hcz26_0); (try clear hcz26_1)
           (try clear hcz26_2); (try clear hcz26_3)
           (try clear hcz26_4); (try clear hcz26_5)
           (try clear hcz26_6); (try clear hcz26_7)
           (try clear hcz26_8); (try clear hcz5_0)
           (try clear hcz5_1); (try clear hcz5_2)
           (try clear hcz5_3); (try clear hcz5_4)
           (try clear hcz5_5); (try clear hcz5_6)
           (try clear hcz5_7); (try clear hcz5_8)
           (try clear hcz9_0); (try clear hcz9_1)
           (try clear hcz9_2); (try clear hcz9_3)
           (try clear hcz9_4); (try clear hcz9_5)
           (try clear hcz9_6); (try clear hcz9_7)
           (try clear hcz9_8); (try clear hfz13_0)
           (try clear hfz13_1); (try clear hfz13_2)
           (try clear hfz13_3); (try clear hfz13_4)
           (try clear hfz13_5); (try clear hfz13_6)
           (try clear hfz13_7); (try clear hfz13_8)
           (try clear hfz15_0); (try clear hfz15_1)
           (try clear hfz15_2); (try clear hfz15_3)
           (try clear hfz15_4); (try clear hfz15_5)
           (try clear hfz15_6); (try clear hfz15_7)
           (try clear hfz15_8); (try clear hfz16_0)
           (try clear hfz16_1); (try clear hfz16_2)
           (try clear hfz16_3); (try clear hfz16_4)
           (try clear hfz16_5); (try clear hfz16_6)
           (try clear hfz16_7); (try clear hfz16_8)
           (try clear hfz19_0); (try clear hfz19_1)
           (try clear hfz19_2); (try clear hfz19_3)
           (try clear hfz19_4); (try clear hfz19_5)
           (try clear hfz19_6); (try clear hfz19_7)
           (try clear hfz19_8); (try clear hfz21_0)
           (try clear hfz21_1); (try clear hfz21_2)
           (try clear hfz21_3); (try clear hfz21_4)
           (try clear hfz21_5); (try clear hfz21_6)
           (try clear hfz21_7); (try clear hfz21_8)
           (try clear hfz22_0); (try clear hfz22_1)
           (try clear hfz22_2); (try clear hfz22_3)
           (try clear hfz22_4); (try clear hfz22_5)
           (try clear hfz22_6); (try clear hfz22_7)
           (try clear hfz22_8); (try clear hfz23_0)
           (try clear hfz23_1); (try clear hfz23_2)
           (try clear hfz23_3); (try clear hfz23_4)
           (try clear hfz23_5); (try clear hfz23_6)
           (try clear hfz23_7); (try clear hfz23_8)
           (try clear hfz26_0); (try clear hfz26_1)
           (try clear hfz26_2); (try clear hfz26_3)
           (try clear hfz26_4); (try clear hfz26_5)
           (try clear hfz26_6); (try clear hfz26_7)
           (try clear hfz26_8); (try clear hfz5_0)
           (try clear hfz5_1); (try clear hfz5_2)
           (try clear hfz5_3); (try clear hfz5_4)
           (try clear hfz5_5); (try clear hfz5_6)
           (try clear hfz5_7); (try clear hfz5_8)
           (try clear hfz9_0); (try clear hfz9_1)
           (try clear hfz9_2); (try clear hfz9_3)
           (try clear hfz9_4); (try clear hfz9_5)
           (try clear hfz9_6); (try clear hfz9_7)
           (try clear hfz9_8); (try clear p2)
           obtain ⟨x3_2, rfl, HA, HK2, BK336, HB⟩ := hrel
           cases gk with
           | zero => exact absurd HA.out (by simp [r9_Right.l0])
           | succ k2 =>
             have H := HA.out
             clear HA
             simp only [r9_Right.l0] at H
             by_cases c27 : x3_2 < (l0_4.length : Int)
             · rw [if_pos c27] at H
               have c27b0 : decide (x3_2 < (l0_4.length : Int)) = true := decide_eq_true c27
               clear c27
               by_cases c28 : 0 ≤ x3_2
               · rw [if_pos c28] at H
                 have c28b0 : decide (0 ≤ x3_2) = true := decide_eq_true c28
                 clear c28
                 replace H := Option.bind_eq_some_iff.mp H
                 obtain ⟨t339, A290, H⟩ := H
                 replace H : (if t339 = true then (r9_Right.l0 k2 (wrap64 (x3_2 + 1)) a0_0 a0_1 a0_2 a0_3 l0_4 a0_5 a0_6 l0_7 a0_8) else (some false)) = some r := H
                 have A29 := Aside0.mk A290
                 clear A290
                 by_cases c30 : t339 = true
                 · subst c30
                   have H1 : (r9_Right.l0 k2 (wrap64 (x3_2 + 1)) a0_0 a0_1 a0_2 a0_3 l0_4 a0_5 a0_6 l0_7 a0_8) = some r := by rw [if_pos rfl] at H; exact H
                   clear H
                   have H := H1
                   clear H1
                   have H' := Aside0.mk H
                   clear H
                   obtain ⟨hcz31_0, hcz31_1, hcz31_2, hcz31_3, hcz31_4, hcz31_5, hcz31_6, hcz31_7, hcz31_8⟩ := cells9 BK336.out
                   obtain ⟨hfz31_0, hfz31_1, hfz31_2, hfz31_3, hfz31_4, hfz31_5, hfz31_6, hfz31_7, hfz31_8⟩ := frozen9 BK336.out
                   have p338 : 0 ≤ (x3_2 : Int) := zd
                   have q338 : x3_2 < (l0_4.length : Int) := zd
                   obtain ⟨ad338, e338, hx338_0⟩ := Kd.at_int HR0_4.out x3_2 p338 q338
                   cases e338
                   replace hx338_0 := pw_cell_below HB.out hx338_0
                   replace p338 := eq_true p338
                   replace q338 := eq_true q338
                   go_wp2_with (first | ((with_reducible refine gate_callee (f := 33) rfl ?_); refine zgl (some 45) Try.func33 #[.int .i64 (rd l0_4 x3_2)] ?_; (with_reducible refine (r9_small.calls (rd l0_4 x3_2) true _ A29.out).mono ?_); rintro e w' ⟨rfl, ⟨nd, rfl⟩⟩; refine ⟨_, rfl, ?_⟩))
                   go_roundg k2
                   case measure => have := HJ6.out; have := HK2.out; omega
                   case rel => exact ⟨(wrap64 (x3_2 + 1)), (zs), H', ⟨by have := HJ6.out; have := HK2.out; omega⟩, ⟨zb BK336.out⟩, ⟨zh1 HB.out GE336.out⟩⟩
                 · replace c30 := Bool.eq_false_iff.mpr c30
                   subst c30
                   have H1 : (some false) = some r := by rw [if_neg (show ¬ (false = true) by decide)] at H; exact H
                   clear H
                   have H := H1
                   clear H1
                   obtain rfl := Option.some.inj H
                   obtain ⟨hcz32_0, hcz32_1, hcz32_2, hcz32_3, hcz32_4, hcz32_5, hcz32_6, hcz32_7, hcz32_8⟩ := cells9 BK336.out
                   obtain ⟨hfz32_0, hfz32_1, hfz32_2, hfz32_3, hfz32_4, hfz32_5, hfz32_6, hfz32_7, hfz32_8⟩ := frozen9 BK336.out
                   have p338 : 0 ≤ (x3_2 : Int) := zd
                   have q338 : x3_2 < (l0_4.length : Int) := zd
                   obtain ⟨ad338, e338, hx338_0⟩ := Kd.at_int HR0_4.out x3_2 p338 q338
                   cases e338
                   replace hx338_0 := pw_cell_below HB.out hx338_0
                   replace p338 := eq_true p338
                   replace q338 := eq_true q338
                   go_wp2_with (first | ((with_reducible refine gate_callee (f := 33) rfl ?_); refine zgl (some 45) Try.func33 #[.int .i64 (rd l0_4 x3_2)] ?_; (with_reducible refine (r9_small.calls (rd l0_4 x3_2) false _ A29.out).mono ?_); rintro e w' ⟨rfl, ⟨nd, rfl⟩⟩; refine ⟨_, rfl, ?_⟩))
                   go_ret
                   exact ⟨ze, zh1 HB.out GE336.out⟩
               · rw [if_neg c28] at H
                 exact absurd H (by simp)
             · rw [if_neg c27] at H
               have c27b0 : decide (x3_2 < (l0_4.length : Int)) = false := decide_eq_false c27
               clear c27
               by_cases c33 : a0_3 ≤ 9728
               · rw [if_pos c33] at H
                 have c33b0 : decide (a0_3 ≤ 9728) = true := decide_eq_true c33
                 clear c33
                 by_cases c34 : (l0_4.length : Int) = 4
                 · rw [if_pos c34] at H
                   have c34b0 : ((l0_4.length : Int) == 4) = true := beq_iff_eq.mpr c34
                   have c34b1 : ((l0_4.length : Int) != 4) = false := bne_eq_false_iff_eq.mpr c34
                   clear c34
                   replace H := Option.bind_eq_some_iff.mp H
                   obtain ⟨t340, A350, H⟩ := H
                   replace H : (if t340 = true then ((r9_small.f a0_6).bind fun t341 => (if t341 = true then (if (l0_7.length : Int) = 0 then (some (a0_8 == 0)) else (some false)) else (some false))) else (some false)) = some r := H
                   have A35 := Aside0.mk A350
                   clear A350
                   by_cases c36 : t340 = true
                   · subst c36
                     have H1 : ((r9_small.f a0_6).bind fun t341 => (if t341 = true then (if (l0_7.length : Int) = 0 then (some (a0_8 == 0)) else (some false)) else (some false))) = some r := by rw [if_pos rfl] at H; exact H
                     clear H
                     have H := H1
                     clear H1
                     replace H := Option.bind_eq_some_iff.mp H
                     obtain ⟨t341, A370, H⟩ := H
                     replace H : (if t341 = true then (if (l0_7.length : Int) = 0 then (some (a0_8 == 0)) else (some false)) else (some false)) = some r := H
                     have A37 := Aside0.mk A370
                     clear A370
                     by_cases c38 : t341 = true
                     · subst c38
                       have H1 : (if (l0_7.length : Int) = 0 then (some (a0_8 == 0)) else (some false)) = some r := by rw [if_pos rfl] at H; exact H
                       clear H
                       have H := H1
                       clear H1
                       by_cases c39 : (l0_7.length : Int) = 0
                       · rw [if_pos c39] at H
                         have c39b0 : ((l0_7.length : Int) == 0) = true := beq_iff_eq.mpr c39
                         have c39b1 : ((l0_7.length : Int) != 0) = false := bne_eq_false_iff_eq.mpr c39
                         clear c39
                         obtain rfl := Option.some.inj H
                         obtain ⟨hcz40_0, hcz40_1, hcz40_2, hcz40_3, hcz40_4, hcz40_5, hcz40_6, hcz40_7, hcz40_8⟩ := cells9 BK336.out
                         obtain ⟨hfz40_0, hfz40_1, hfz40_2, hfz40_3, hfz40_4, hfz40_5, hfz40_6, hfz40_7, hfz40_8⟩ := frozen9 BK336.out
                         go_wp2_with (first | (go_at_call 33; (with_reducible refine (r9_small.calls a0_5 true _ A35.out).mono ?_); rintro e w' ⟨rfl, ⟨nd, rfl⟩⟩) | (go_at_call 33; (with_reducible refine (r9_small.calls a0_6 true _ A37.out).mono ?_); rintro e w' ⟨rfl, ⟨nd, rfl⟩⟩))
                         go_ret
                         exact ⟨ze, zh1 HB.out GE336.out⟩
                       · rw [if_neg c39] at H
                         have c39b0 : ((l0_7.length : Int) == 0) = false := beq_eq_false_iff_ne.mpr c39
                         have c39b1 : ((l0_7.length : Int) != 0) = true := bne_iff_ne.mpr c39
                         have c39b2 : ¬ (l0_7 = []) := fun h_ => c39 (by rw [h_]; rfl)
                         obtain rfl := Option.some.inj H
                         obtain ⟨hcz41_0, hcz41_1, hcz41_2, hcz41_3, hcz41_4, hcz41_5, hcz41_6, hcz41_7, hcz41_8⟩ := cells9 BK336.out
                         obtain ⟨hfz41_0, hfz41_1, hfz41_2, hfz41_3, hfz41_4, hfz41_5, hfz41_6, hfz41_7, hfz41_8⟩ := frozen9 BK336.out
                         go_wp2_with (first | (go_at_call 33; (with_reducible refine (r9_small.calls a0_5 true _ A35.out).mono ?_); rintro e w' ⟨rfl, ⟨nd, rfl⟩⟩) | (go_at_call 33; (with_reducible refine (r9_small.calls a0_6 true _ A37.out).mono ?_); rintro e w' ⟨rfl, ⟨nd, rfl⟩⟩))
                         go_ret
                         exact ⟨ze, zh1 HB.out GE336.out⟩
                     · replace c38 := Bool.eq_false_iff.mpr c38
                       subst c38
                       have H1 : (some false) = some r := by rw [if_neg (show ¬ (false = true) by decide)] at H; exact H
                       clear H
                       have H := H1
                       clear H1
                       obtain rfl := Option.some.inj H
                       obtain ⟨hcz42_0, hcz42_1, hcz42_2, hcz42_3, hcz42_4, hcz42_5, hcz42_6, hcz42_7, hcz42_8⟩ := cells9 BK336.out
                       obtain ⟨hfz42_0, hfz42_1, hfz42_2, hfz42_3, hfz42_4, hfz42_5, hfz42_6, hfz42_7, hfz42_8⟩ := frozen9 BK336.out
                       go_wp2_with (first | (go_at_call 33; (with_reducible refine (r9_small.calls a0_5 true _ A35.out).mono ?_); rintro e w' ⟨rfl, ⟨nd, rfl⟩⟩) | (go_at_call 33; (with_reducible refine (r9_small.calls a0_6 false _ A37.out).mono ?_); rintro e w' ⟨rfl, ⟨nd, rfl⟩⟩))
                       go_ret
                       exact ⟨ze, zh1 HB.out GE336.out⟩
                   · replace c36 := Bool.eq_false_iff.mpr c36
                     subst c36
                     have H1 : (some false) = some r := by rw [if_neg (show ¬ (false = true) by decide)] at H; exact H
                     clear H
                     have H := H1
                     clear H1
                     obtain rfl := Option.some.inj H
                     obtain ⟨hcz43_0, hcz43_1, hcz43_2, hcz43_3, hcz43_4, hcz43_5, hcz43_6, hcz43_7, hcz43_8⟩ := cells9 BK336.out
                     obtain ⟨hfz43_0, hfz43_1, hfz43_2, hfz43_3, hfz43_4, hfz43_5, hfz43_6, hfz43_7, hfz43_8⟩ := frozen9 BK336.out
                     go_wp2_with (first | (go_at_call 33; (with_reducible refine (r9_small.calls a0_5 false _ A35.out).mono ?_); rintro e w' ⟨rfl, ⟨nd, rfl⟩⟩))
                     go_ret
                     exact ⟨ze, zh1 HB.out GE336.out⟩
                 · rw [if_neg c34] at H
                   have c34b0 : ((l0_4.length : Int) == 4) = false := beq_eq_false_iff_ne.mpr c34
                   have c34b1 : ((l0_4.length : Int) != 4) = true := bne_iff_ne.mpr c34
                   obtain rfl := Option.some.inj H
                   obtain ⟨hcz44_0, hcz44_1, hcz44_2, hcz44_3, hcz44_4, hcz44_5, hcz44_6, hcz44_7, hcz44_8⟩ := cells9 BK336.out
                   obtain ⟨hfz44_0, hfz44_1, hfz44_2, hfz44_3, hfz44_4, hfz44_5, hfz44_6, hfz44_7, hfz44_8⟩ := frozen9 BK336.out
                   go_wp2
                   go_ret
                   exact ⟨ze, zh1 HB.out GE336.out⟩
               · rw [if_neg c33] at H
                 have c33b0 : decide (a0_3 ≤ 9728) = false := decide_eq_false c33
                 clear c33
                 obtain rfl := Option.some.inj H
                 obtain ⟨hcz45_0, hcz45_1, hcz45_2, hcz45_3, hcz45_4, hcz45_5, hcz45_6, hcz45_7, hcz45_8⟩ := cells9 BK336.out
                 obtain ⟨hfz45_0, hfz45_1, hfz45_2, hfz45_3, hfz45_4, hfz45_5, hfz45_6, hfz45_7, hfz45_8⟩ := frozen9 BK336.out
                 go_wp2
                 go_ret
                 exact ⟨ze, zh1 HB.out GE336.out⟩
        · rw [if_neg c25] at H
          have c25b0 : (a0_0 == 1) = false := beq_eq_false_iff_ne.mpr c25
          have c25b1 : (a0_0 != 1) = true := bne_iff_ne.mpr c25
          by_cases c46 : a0_0 = 2
          · rw [if_pos c46] at H
            have c46b0 : (a0_0 == 2) = true := beq_iff_eq.mpr c46
            have c46b1 : (a0_0 != 2) = false := bne_eq_false_iff_eq.mpr c46
            clear c46
            by_cases c47 : a0_3 ≤ 15360
            · rw [if_pos c47] at H
              have c47b0 : decide (a0_3 ≤ 15360) = true := decide_eq_true c47
              clear c47
              by_cases c48 : (l0_4.length : Int) = 0
              · rw [if_pos c48] at H
                have c48b0 : ((l0_4.length : Int) == 0) = true := beq_iff_eq.mpr c48
                have c48b1 : ((l0_4.length : Int) != 0) = false := bne_eq_false_iff_eq.mpr c48
                clear c48
                by_cases c49 : a0_5 = 0
                · rw [if_pos c49] at H
                  have c49b0 : (a0_5 == 0) = true := beq_iff_eq.mpr c49
                  have c49b1 : (a0_5 != 0) = false := bne_eq_false_iff_eq.mpr c49
                  clear c49
                  by_cases c50 : a0_6 = 0
                  · rw [if_pos c50] at H
                    have c50b0 : (a0_6 == 0) = true := beq_iff_eq.mpr c50
                    have c50b1 : (a0_6 != 0) = false := bne_eq_false_iff_eq.mpr c50
                    clear c50
                    by_cases c51 : (l0_7.length : Int) ≤ 3
                    · rw [if_pos c51] at H
                      have c51b0 : decide ((l0_7.length : Int) ≤ 3) = true := decide_eq_true c51
                      have c51b1 : decide (l0_7.length ≤ 3) = true := decide_eq_true (by omega)
                      clear c51
                      replace H := Option.bind_eq_some_iff.mp H
                      obtain ⟨t342, A520, H⟩ := H
                      replace H : (if t342 = true then ((r9_small.f a0_8).bind fun t343 => (if t343 = true then (if a0_8 = 0 then (some true) else (some ((l0_7.length : Int) == 3))) else (some false))) else (some false)) = some r := H
                      have A52 := Aside0.mk A520
                      clear A520
                      by_cases c53 : t342 = true
                      · subst c53
                        have H1 : ((r9_small.f a0_8).bind fun t343 => (if t343 = true then (if a0_8 = 0 then (some true) else (some ((l0_7.length : Int) == 3))) else (some false))) = some r := by rw [if_pos rfl] at H; exact H
                        clear H
                        have H := H1
                        clear H1
                        replace H := Option.bind_eq_some_iff.mp H
                        obtain ⟨t343, A540, H⟩ := H
                        replace H : (if t343 = true then (if a0_8 = 0 then (some true) else (some ((l0_7.length : Int) == 3))) else (some false)) = some r := H
                        have A54 := Aside0.mk A540
                        clear A540
                        by_cases c55 : t343 = true
                        · subst c55
                          have H1 : (if a0_8 = 0 then (some true) else (some ((l0_7.length : Int) == 3))) = some r := by rw [if_pos rfl] at H; exact H
                          clear H
                          have H := H1
                          clear H1
                          by_cases c56 : a0_8 = 0
                          · rw [if_pos c56] at H
                            have c56b0 : (a0_8 == 0) = true := beq_iff_eq.mpr c56
                            have c56b1 : (a0_8 != 0) = false := bne_eq_false_iff_eq.mpr c56
                            clear c56
                            obtain rfl := Option.some.inj H
                            obtain ⟨hcz57_0, hcz57_1, hcz57_2, hcz57_3, hcz57_4, hcz57_5, hcz57_6, hcz57_7, hcz57_8⟩ := cells9 BK336.out
                            obtain ⟨hfz57_0, hfz57_1, hfz57_2, hfz57_3, hfz57_4, hfz57_5, hfz57_6, hfz57_7, hfz57_8⟩ := frozen9 BK336.out
                            go_wp2_with (first | (go_at_call 34; (with_reducible refine (r4_Right.calls kj6 _ _ l0_7 true _ ?side1 ?side2 A52.out).mono ?_); (case side1 => exact zc (Kd.C_below HR0_7.out HB.out)); (case side2 => exact HC0_7.out); rintro e w58 ⟨rfl, hb⟩; replace BK336 := Aside0.mk (zB BK336.out hb); replace HB := Aside0.mk (below_step (zh1 HB.out GE336.out) hb); (try clear hb); (try clear hb2); (try clear hk); (try clear hi); obtain ⟨hcz59_0, hcz59_1, hcz59_2, hcz59_3, hcz59_4, hcz59_5, hcz59_6, hcz59_7, hcz59_8⟩ := cells9 BK336.out; obtain ⟨hfz59_0, hfz59_1, hfz59_2, hfz59_3, hfz59_4, hfz59_5, hfz59_6, hfz59_7, hfz59_8⟩ := frozen9 BK336.out) | (go_at_call 33; (with_reducible refine (r9_small.calls a0_8 true _ A54.out).mono ?_); rintro e w' ⟨rfl, ⟨nd, rfl⟩⟩))
                            go_ret
                            exact ⟨ze, zh1 HB.out GE336.out⟩
                          · rw [if_neg c56] at H
                            have c56b0 : (a0_8 == 0) = false := beq_eq_false_iff_ne.mpr c56
                            have c56b1 : (a0_8 != 0) = true := bne_iff_ne.mpr c56
                            obtain rfl := Option.some.inj H
                            obtain ⟨hcz60_0, hcz60_1, hcz60_2, hcz60_3, hcz60_4, hcz60_5, hcz60_6, hcz60_7, hcz60_8⟩ := cells9 BK336.out
                            obtain ⟨hfz60_0, hfz60_1, hfz60_2, hfz60_3, hfz60_4, hfz60_5, hfz60_6, hfz60_7, hfz60_8⟩ := frozen9 BK336.out
                            go_wp2_with (first | (go_at_call 34; (with_reducible refine (r4_Right.calls kj6 _ _ l0_7 true _ ?side1 ?side2 A52.out).mono ?_); (case side1 => exact zc (Kd.C_below HR0_7.out HB.out)); (case side2 => exact HC0_7.out); rintro e w61 ⟨rfl, hb⟩; replace BK336 := Aside0.mk (zB BK336.out hb); replace HB := Aside0.mk (below_step (zh1 HB.out GE336.out) hb); (try clear hb); (try clear hb2); (try clear hk); (try clear hi); obtain ⟨hcz62_0, hcz62_1, hcz62_2, hcz62_3, hcz62_4, hcz62_5, hcz62_6, hcz62_7, hcz62_8⟩ := cells9 BK336.out; obtain ⟨hfz62_0, hfz62_1, hfz62_2, hfz62_3, hfz62_4, hfz62_5, hfz62_6, hfz62_7, hfz62_8⟩ := frozen9 BK336.out) | (go_at_call 33; (with_reducible refine (r9_small.calls a0_8 true _ A54.out).mono ?_); rintro e w' ⟨rfl, ⟨nd, rfl⟩⟩))
                            go_ret
                            exact ⟨ze, zh1 HB.out GE336.out⟩
                        · replace c55 := Bool.eq_false_iff.mpr c55
                          subst c55
                          have H1 : (some false) = some r := by rw [if_neg (show ¬ (false = true) by decide)] at H; exact H
                          clear H
                          have H := H1
                          clear H1
                          obtain rfl := Option.some.inj H
                          obtain ⟨hcz63_0, hcz63_1, hcz63_2, hcz63_3, hcz63_4, hcz63_5, hcz63_6, hcz63_7, hcz63_8⟩ := cells9 BK336.out
                          obtain ⟨hfz63_0, hfz63_1, hfz63_2, hfz63_3, hfz63_4, hfz63_5, hfz63_6, hfz63_7, hfz63_8⟩ := frozen9 BK336.out
                          go_wp2_with (first | (go_at_call 34; (with_reducible refine (r4_Right.calls kj6 _ _ l0_7 true _ ?side1 ?side2 A52.out).mono ?_); (case side1 => exact zc (Kd.C_below HR0_7.out HB.out)); (case side2 => exact HC0_7.out); rintro e w64 ⟨rfl, hb⟩; replace BK336 := Aside0.mk (zB BK336.out hb); replace HB := Aside0.mk (below_step (zh1 HB.out GE336.out) hb); (try clear hb); (try clear hb2); (try clear hk); (try clear hi); obtain ⟨hcz65_0, hcz65_1, hcz65_2, hcz65_3, hcz65_4, hcz65_5, hcz65_6, hcz65_7, hcz65_8⟩ := cells9 BK336.out; obtain ⟨hfz65_0, hfz65_1, hfz65_2, hfz65_3, hfz65_4, hfz65_5, hfz65_6, hfz65_7, hfz65_8⟩ := frozen9 BK336.out) | (go_at_call 33; (with_reducible refine (r9_small.calls a0_8 false _ A54.out).mono ?_); rintro e w' ⟨rfl, ⟨nd, rfl⟩⟩))
                          go_ret
                          exact ⟨ze, zh1 HB.out GE336.out⟩
                      · replace c53 := Bool.eq_false_iff.mpr c53
                        subst c53
                        have H1 : (some false) = some r := by rw [if_neg (show ¬ (false = true) by decide)] at H; exact H
                        clear H
                        have H := H1
                        clear H1
                        obtain rfl := Option.some.inj H
                        obtain ⟨hcz66_0, hcz66_1, hcz66_2, hcz66_3, hcz66_4, hcz66_5, hcz66_6, hcz66_7, hcz66_8⟩ := cells9 BK336.out
                        obtain ⟨hfz66_0, hfz66_1, hfz66_2, hfz66_3, hfz66_4, hfz66_5, hfz66_6, hfz66_7, hfz66_8⟩ := frozen9 BK336.out
                        go_wp2_with (first | (go_at_call 34; (with_reducible refine (r4_Right.calls kj6 _ _ l0_7 false _ ?side1 ?side2 A52.out).mono ?_); (case side1 => exact zc (Kd.C_below HR0_7.out HB.out)); (case side2 => exact HC0_7.out); rintro e w67 ⟨rfl, hb⟩; replace BK336 := Aside0.mk (zB BK336.out hb); replace HB := Aside0.mk (below_step (zh1 HB.out GE336.out) hb); (try clear hb); (try clear hb2); (try clear hk); (try clear hi)))
                        go_ret
                        exact ⟨ze, zh1 HB.out GE336.out⟩
                    · rw [if_neg c51] at H
                      have c51b0 : decide ((l0_7.length : Int) ≤ 3) = false := decide_eq_false c51
                      have c51b1 : decide (l0_7.length ≤ 3) = false := decide_eq_false (by omega)
                      clear c51
                      obtain rfl := Option.some.inj H
                      obtain ⟨hcz68_0, hcz68_1, hcz68_2, hcz68_3, hcz68_4, hcz68_5, hcz68_6, hcz68_7, hcz68_8⟩ := cells9 BK336.out
                      obtain ⟨hfz68_0, hfz68_1, hfz68_2, hfz68_3, hfz68_4, hfz68_5, hfz68_6, hfz68_7, hfz68_8⟩ := frozen9 BK336.out
                      go_wp2
                      go_ret
                      exact ⟨ze, zh1 HB.out GE336.out⟩
                  · rw [if_neg c50] at H
                    have c50b0 : (a0_6 == 0) = false := beq_eq_false_iff_ne.mpr c50
                    have c50b1 : (a0_6 != 0) = true := bne_iff_ne.mpr c50
                    obtain rfl := Option.some.inj H
                    obtain ⟨hcz69_0, hcz69_1, hcz69_2, hcz69_3, hcz69_4, hcz69_5, hcz69_6, hcz69_7, hcz69_8⟩ := cells9 BK336.out
                    obtain ⟨hfz69_0, hfz69_1, hfz69_2, hfz69_3, hfz69_4, hfz69_5, hfz69_6, hfz69_7, hfz69_8⟩ := frozen9 BK336.out
                    go_wp2
                    go_ret
                    exact ⟨ze, zh1 HB.out GE336.out⟩
                · rw [if_neg c49] at H
                  have c49b0 : (a0_5 == 0) = false := beq_eq_false_iff_ne.mpr c49
                  have c49b1 : (a0_5 != 0) = true := bne_iff_ne.mpr c49
                  obtain rfl := Option.some.inj H
                  obtain ⟨hcz70_0, hcz70_1, hcz70_2, hcz70_3, hcz70_4, hcz70_5, hcz70_6, hcz70_7, hcz70_8⟩ := cells9 BK336.out
                  obtain ⟨hfz70_0, hfz70_1, hfz70_2, hfz70_3, hfz70_4, hfz70_5, hfz70_6, hfz70_7, hfz70_8⟩ := frozen9 BK336.out
                  go_wp2
                  go_ret
                  exact ⟨ze, zh1 HB.out GE336.out⟩
              · rw [if_neg c48] at H
                have c48b0 : ((l0_4.length : Int) == 0) = false := beq_eq_false_iff_ne.mpr c48
                have c48b1 : ((l0_4.length : Int) != 0) = true := bne_iff_ne.mpr c48
                have c48b2 : ¬ (l0_4 = []) := fun h_ => c48 (by rw [h_]; rfl)
                obtain rfl := Option.some.inj H
                obtain ⟨hcz71_0, hcz71_1, hcz71_2, hcz71_3, hcz71_4, hcz71_5, hcz71_6, hcz71_7, hcz71_8⟩ := cells9 BK336.out
                obtain ⟨hfz71_0, hfz71_1, hfz71_2, hfz71_3, hfz71_4, hfz71_5, hfz71_6, hfz71_7, hfz71_8⟩ := frozen9 BK336.out
                go_wp2
                go_ret
                exact ⟨ze, zh1 HB.out GE336.out⟩
            · rw [if_neg c47] at H
              have c47b0 : decide (a0_3 ≤ 15360) = false := decide_eq_false c47
              clear c47
              obtain rfl := Option.some.inj H
              obtain ⟨hcz72_0, hcz72_1, hcz72_2, hcz72_3, hcz72_4, hcz72_5, hcz72_6, hcz72_7, hcz72_8⟩ := cells9 BK336.out
              obtain ⟨hfz72_0, hfz72_1, hfz72_2, hfz72_3, hfz72_4, hfz72_5, hfz72_6, hfz72_7, hfz72_8⟩ := frozen9 BK336.out
              go_wp2
              go_ret
              exact ⟨ze, zh1 HB.out GE336.out⟩
          · rw [if_neg c46] at H
            have c46b0 : (a0_0 == 2) = false := beq_eq_false_iff_ne.mpr c46
            have c46b1 : (a0_0 != 2) = true := bne_iff_ne.mpr c46
            obtain rfl := Option.some.inj H
            obtain ⟨hcz73_0, hcz73_1, hcz73_2, hcz73_3, hcz73_4, hcz73_5, hcz73_6, hcz73_7, hcz73_8⟩ := cells9 BK336.out
            obtain ⟨hfz73_0, hfz73_1, hfz73_2, hfz73_3, hfz73_4, hfz73_5, hfz73_6, hfz73_7, hfz73_8⟩ := frozen9 BK336.out
            go_wp2
            go_ret
            exact ⟨ze, zh1 HB.out GE336.out⟩

end Go.Proofs.Ytgigoogekimgkaa.GCrd
