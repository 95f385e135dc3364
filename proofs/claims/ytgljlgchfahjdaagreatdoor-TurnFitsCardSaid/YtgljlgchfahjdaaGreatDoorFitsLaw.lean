/- The law TurnFits, walked, what its closed calls do given: at every card, row of numbers and pair. Conditions: as the theorems state them. -/
import Derived.Test.YtgljlgchfahjdaaGreatDoorFits
import Derived.Deep.RegionHeld3
namespace Go.Proofs.YtgljlgchfahjdaaGreatDoor.Fits
open Go Go.RowKit
set_option maxRecDepth 100000
set_option maxHeartbeats 16000000
theorem fits_calls (f : Int) (a0 a1 a2 a3 a5 a6 a8 : Int) (A4 : Option Addr) (l4 c4 : Nat) (A7 : Option Addr) (l7 c7 : Nat) (A : Option Addr) (c : Nat) (m : List Int) (w : World) (hmax : m.length ≤ 9223372036854775807) (hc : m.length ≤ c) (hr : IRow w A m) :
    Calls Tryz.prog 5 #[.agg #[.int .i64 a0, .int .i64 a1, .int .i64 a2, .int .i64 a3, .slice A4 l4 c4, .int .i64 a5, .int .i64 a6, .slice A7 l7 c7, .int .i64 a8], .slice A m.length c, .int .i64 f] w fun e w' => e = .returned (.bool (fits a3 m f)) ∧ Below w.heap.size w w' := by
  by_cases h1 : f = 1
  · subst h1; exact fits_one a0 a1 a2 a3 a5 a6 a8 A4 l4 c4 A7 l7 c7 A c m w hmax hc hr
  · by_cases h2 : f = 2
    · subst h2; exact fits_two a0 a1 a2 a3 a5 a6 a8 A4 l4 c4 A7 l7 c7 A c m w hmax hc hr
    · have em : most f = 0 := by simp [most, h1, h2]
      have ef : fits a3 m f = false := by unfold fits; rw [em]; rfl
      rw [ef]
      exact fits_none f h1 h2 a0 a1 a2 a3 a5 a6 a8 A4 l4 c4 A7 l7 c7 A c m.length w
theorem ref_calls (f : Int) (a0 a1 a2 a3 a5 a6 a8 : Int) (A4 : Option Addr) (l4 c4 : Nat) (A7 : Option Addr) (l7 c7 : Nat) (A : Option Addr) (c : Nat) (m : List Int) (w : World) (hmax : m.length ≤ 9223372036854775807) (hc : m.length ≤ c) (hr : IRow w A m) :
    Calls Tryz.prog 6 #[.agg #[.int .i64 a0, .int .i64 a1, .int .i64 a2, .int .i64 a3, .slice A4 l4 c4, .int .i64 a5, .int .i64 a6, .slice A7 l7 c7, .int .i64 a8], .slice A m.length c, .int .i64 f] w fun e w' => e = .returned (.bool (fits a3 m f)) ∧ Below w.heap.size w w' := by
  by_cases h1 : f = 1
  · subst h1; exact ref_one a0 a1 a2 a3 a5 a6 a8 A4 l4 c4 A7 l7 c7 A c m w hmax hc hr
  · by_cases h2 : f = 2
    · subst h2; exact ref_two a0 a1 a2 a3 a5 a6 a8 A4 l4 c4 A7 l7 c7 A c m w hmax hc hr
    · exact ref_none f h1 h2 a0 a1 a2 a3 a5 a6 a8 A4 l4 c4 A7 l7 c7 A c m w hmax hc hr
/-- the law's boxed arguments -/
structure Bx (g : Nat) (v0 v1 v2 v3 v4 v5 v6 v7 v8 u0 u1 : Value) (w : World) : Prop where
  k0 : w.cell? ⟨g, 0, none⟩ = some v0
  k1 : w.cell? ⟨g, 1, none⟩ = some v1
  k2 : w.cell? ⟨g, 2, none⟩ = some v2
  k3 : w.cell? ⟨g, 3, none⟩ = some v3
  k4 : w.cell? ⟨g, 4, none⟩ = some v4
  k5 : w.cell? ⟨g, 5, none⟩ = some v5
  k6 : w.cell? ⟨g, 6, none⟩ = some v6
  k7 : w.cell? ⟨g, 7, none⟩ = some v7
  k8 : w.cell? ⟨g, 8, none⟩ = some v8
  p0 : w.cell? ⟨g + 1, 0, none⟩ = some u0
  p1 : w.cell? ⟨g + 1, 1, none⟩ = some u1
theorem Bx.below {g : Nat} {v0 v1 v2 v3 v4 v5 v6 v7 v8 u0 u1 : Value} {w w' : World} (hb : Below w.heap.size w w') (b : Bx g v0 v1 v2 v3 v4 v5 v6 v7 v8 u0 u1 w) : Bx g v0 v1 v2 v3 v4 v5 v6 v7 v8 u0 u1 w' :=
  ⟨cell_below hb b.k0, cell_below hb b.k1, cell_below hb b.k2, cell_below hb b.k3, cell_below hb b.k4, cell_below hb b.k5, cell_below hb b.k6, cell_below hb b.k7, cell_below hb b.k8, cell_below hb b.p0, cell_below hb b.p1⟩
theorem Bx.init (w : World) (t s : TypeId) (v0 v1 v2 v3 v4 v5 v6 v7 v8 u0 u1 : Value) : Bx w.heap.size v0 v1 v2 v3 v4 v5 v6 v7 v8 u0 u1 ((w.alloc (.cells #[v0, v1, v2, v3, v4, v5, v6, v7, v8] t)).alloc (.cells #[u0, u1] s)) := by
  have h1 := heap_alloc2_old w (.cells #[v0, v1, v2, v3, v4, v5, v6, v7, v8] t) (.cells #[u0, u1] s)
  have h2 := heap_alloc2_new w (.cells #[v0, v1, v2, v3, v4, v5, v6, v7, v8] t) (.cells #[u0, u1] s)
  constructor <;> (unfold World.cell?; first | (simp only [h1]; rfl) | (simp only [h2]; rfl))
theorem below_box2 (w : World) (o p : Obj) : Below w.heap.size w ((w.alloc o).alloc p) :=
  ((Below.refl w.heap.size w).alloc (Nat.le_refl _) o).alloc ((Below.refl w.heap.size w).alloc (Nat.le_refl _) o).size p
theorem law_A (LV : ∀ W : World, Calls Tryz.prog 4 #[] W fun e w' => e = .returned (.bool true) ∧ Below W.heap.size W w')
    (P Q : World → World → Value → Prop)
    (PB : ∀ W w v, P W w v → Below W.heap.size W w) (QB : ∀ W w v, Q W w v → Below W.heap.size W w)
    (BG : ∀ W, Calls Tryz.prog 7 #[.bool true, .int .i64 0, .slice none 0 0] W fun e w' => ∃ a, e = .returned (.pointer (some a)) ∧ P W w' (.pointer (some a)))
    (x0 x1 : Int) (h1 : x0 ≠ 1) (h2 : x0 ≠ 2)
    (FL : ∀ W w v, P W w v → Calls Tryz.prog 8 #[v, .int .i64 x1, .int .i64 x0] w fun e w' => e = .returned (.int .i64 1) ∧ Q W w' v)
    (CH : ∀ W w v, Q W w v → Calls Tryz.prog 9 #[v] w fun e w' => e = .returned (.slice none 0 0) ∧ Below W.heap.size W w')
    (a0 a1 a2 a3 a5 a6 a8 : Int) (A4 : Option Addr) (l4 c4 : Nat) (A7 : Option Addr) (l7 c7 : Nat) (A : Option Addr) (c : Nat) (m : List Int) (w : World) (hmax : m.length ≤ 9223372036854775807) (hc : m.length ≤ c) (hr : IRow w A m) :
    Calls Tryz.prog 3 #[.agg #[.int .i64 a0, .int .i64 a1, .int .i64 a2, .int .i64 a3, .slice A4 l4 c4, .int .i64 a5, .int .i64 a6, .slice A7 l7 c7, .int .i64 a8], .slice A m.length c, .agg #[.int .i64 x0, .int .i64 x1]] w fun e w' => e = .returned (.bool true) ∧ Below w.heap.size w w' := by
  have LV := fun W : World => Aside0.mk (LV W)
  have CF := fun (W : World) (hb : Below w.heap.size w W) => Aside0.mk (fits_calls x0 a0 a1 a2 a3 a5 a6 a8 A4 l4 c4 A7 l7 c7 A c m W hmax hc (row_below hb hr))
  have CR := fun (W : World) (hb : Below w.heap.size w W) => Aside0.mk (ref_calls x0 a0 a1 a2 a3 a5 a6 a8 A4 l4 c4 A7 l7 c7 A c m W hmax hc (row_below hb hr))
  have CB := fun (W : World) => Aside0.mk (BG W)
  have CL := fun (V W : World) (v : Value) (h : P V W v) => Aside0.mk (FL V W v h)
  have CC := fun (V W : World) (v : Value) (h : Q V W v) => Aside0.mk (CH V W v h)
  have PB := Aside0.mk PB
  have QB := Aside0.mk QB
  have HB := Aside0.mk (below_box2 w (.cells #[.int .i64 a0, .int .i64 a1, .int .i64 a2, .int .i64 a3, .slice A4 l4 c4, .int .i64 a5, .int .i64 a6, .slice A7 l7 c7, .int .i64 a8] 25) (.cells #[.int .i64 x0, .int .i64 x1] 26))
  have BX := Aside0.mk (Bx.init w 25 26 (.int .i64 a0) (.int .i64 a1) (.int .i64 a2) (.int .i64 a3) (.slice A4 l4 c4) (.int .i64 a5) (.int .i64 a6) (.slice A7 l7 c7) (.int .i64 a8) (.int .i64 x0) (.int .i64 x1))
  have b1 : (x0 == 1) = false := beq_eq_false_iff_ne.2 h1
  have b2 : (x0 == 2) = false := beq_eq_false_iff_ne.2 h2
  have n1 : (x0 != 1) = true := bne_iff_ne.2 h1
  have n2 : (x0 != 2) = true := bne_iff_ne.2 h2
  generalize fits a3 m x0 = t at *
  clear hr hmax hc h1 h2
  go_enter Tryz.func3, Tryz.ntmps3
  have SB : Aside0 (∀ w1 w2 : World, Below w1.heap.size w1 w2 → (w1.cell? ⟨w.heap.size, 0, none⟩ = some (.int .i64 a0) ∧ w1.cell? ⟨w.heap.size, 1, none⟩ = some (.int .i64 a1) ∧ w1.cell? ⟨w.heap.size, 2, none⟩ = some (.int .i64 a2) ∧ w1.cell? ⟨w.heap.size, 3, none⟩ = some (.int .i64 a3) ∧ w1.cell? ⟨w.heap.size, 4, none⟩ = some (.slice A4 l4 c4) ∧ w1.cell? ⟨w.heap.size, 5, none⟩ = some (.int .i64 a5) ∧ w1.cell? ⟨w.heap.size, 6, none⟩ = some (.int .i64 a6) ∧ w1.cell? ⟨w.heap.size, 7, none⟩ = some (.slice A7 l7 c7) ∧ w1.cell? ⟨w.heap.size, 8, none⟩ = some (.int .i64 a8) ∧ w1.cell? ⟨w.heap.size + 1, 0, none⟩ = some (.int .i64 x0) ∧ w1.cell? ⟨w.heap.size + 1, 1, none⟩ = some (.int .i64 x1) ∧ Below w.heap.size w w1) → (w2.cell? ⟨w.heap.size, 0, none⟩ = some (.int .i64 a0) ∧ w2.cell? ⟨w.heap.size, 1, none⟩ = some (.int .i64 a1) ∧ w2.cell? ⟨w.heap.size, 2, none⟩ = some (.int .i64 a2) ∧ w2.cell? ⟨w.heap.size, 3, none⟩ = some (.int .i64 a3) ∧ w2.cell? ⟨w.heap.size, 4, none⟩ = some (.slice A4 l4 c4) ∧ w2.cell? ⟨w.heap.size, 5, none⟩ = some (.int .i64 a5) ∧ w2.cell? ⟨w.heap.size, 6, none⟩ = some (.int .i64 a6) ∧ w2.cell? ⟨w.heap.size, 7, none⟩ = some (.slice A7 l7 c7) ∧ w2.cell? ⟨w.heap.size, 8, none⟩ = some (.int .i64 a8) ∧ w2.cell? ⟨w.heap.size + 1, 0, none⟩ = some (.int .i64 x0) ∧ w2.cell? ⟨w.heap.size + 1, 1, none⟩ = some (.int .i64 x1) ∧ Below w.heap.size w w2)) := ⟨fun w1 w2 hb h => by
    obtain ⟨k0, k1, k2, k3, k4, k5, k6, k7, k8, p0, p1, hB⟩ := h
    exact ⟨cell_below hb k0, cell_below hb k1, cell_below hb k2, cell_below hb k3, cell_below hb k4, cell_below hb k5, cell_below hb k6, cell_below hb k7, cell_below hb k8, cell_below hb p0, cell_below hb p1, hB.trans (hb.mono hB.size)⟩⟩
  have SD : Aside0 (∀ w1 : World, (w1.cell? ⟨w.heap.size, 0, none⟩ = some (.int .i64 a0) ∧ w1.cell? ⟨w.heap.size, 1, none⟩ = some (.int .i64 a1) ∧ w1.cell? ⟨w.heap.size, 2, none⟩ = some (.int .i64 a2) ∧ w1.cell? ⟨w.heap.size, 3, none⟩ = some (.int .i64 a3) ∧ w1.cell? ⟨w.heap.size, 4, none⟩ = some (.slice A4 l4 c4) ∧ w1.cell? ⟨w.heap.size, 5, none⟩ = some (.int .i64 a5) ∧ w1.cell? ⟨w.heap.size, 6, none⟩ = some (.int .i64 a6) ∧ w1.cell? ⟨w.heap.size, 7, none⟩ = some (.slice A7 l7 c7) ∧ w1.cell? ⟨w.heap.size, 8, none⟩ = some (.int .i64 a8) ∧ w1.cell? ⟨w.heap.size + 1, 0, none⟩ = some (.int .i64 x0) ∧ w1.cell? ⟨w.heap.size + 1, 1, none⟩ = some (.int .i64 x1) ∧ Below w.heap.size w w1) → (w1.drew.cell? ⟨w.heap.size, 0, none⟩ = some (.int .i64 a0) ∧ w1.drew.cell? ⟨w.heap.size, 1, none⟩ = some (.int .i64 a1) ∧ w1.drew.cell? ⟨w.heap.size, 2, none⟩ = some (.int .i64 a2) ∧ w1.drew.cell? ⟨w.heap.size, 3, none⟩ = some (.int .i64 a3) ∧ w1.drew.cell? ⟨w.heap.size, 4, none⟩ = some (.slice A4 l4 c4) ∧ w1.drew.cell? ⟨w.heap.size, 5, none⟩ = some (.int .i64 a5) ∧ w1.drew.cell? ⟨w.heap.size, 6, none⟩ = some (.int .i64 a6) ∧ w1.drew.cell? ⟨w.heap.size, 7, none⟩ = some (.slice A7 l7 c7) ∧ w1.drew.cell? ⟨w.heap.size, 8, none⟩ = some (.int .i64 a8) ∧ w1.drew.cell? ⟨w.heap.size + 1, 0, none⟩ = some (.int .i64 x0) ∧ w1.drew.cell? ⟨w.heap.size + 1, 1, none⟩ = some (.int .i64 x1) ∧ Below w.heap.size w w1.drew)) := ⟨fun w1 h => by
    obtain ⟨k0, k1, k2, k3, k4, k5, k6, k7, k8, p0, p1, hB⟩ := h
    exact ⟨k0, k1, k2, k3, k4, k5, k6, k7, k8, p0, p1, hB.os, hB.tape, hB.output, hB.size, hB.block⟩⟩
  have SG : Aside0 (∀ w1 : World, (w1.cell? ⟨w.heap.size, 0, none⟩ = some (.int .i64 a0) ∧ w1.cell? ⟨w.heap.size, 1, none⟩ = some (.int .i64 a1) ∧ w1.cell? ⟨w.heap.size, 2, none⟩ = some (.int .i64 a2) ∧ w1.cell? ⟨w.heap.size, 3, none⟩ = some (.int .i64 a3) ∧ w1.cell? ⟨w.heap.size, 4, none⟩ = some (.slice A4 l4 c4) ∧ w1.cell? ⟨w.heap.size, 5, none⟩ = some (.int .i64 a5) ∧ w1.cell? ⟨w.heap.size, 6, none⟩ = some (.int .i64 a6) ∧ w1.cell? ⟨w.heap.size, 7, none⟩ = some (.slice A7 l7 c7) ∧ w1.cell? ⟨w.heap.size, 8, none⟩ = some (.int .i64 a8) ∧ w1.cell? ⟨w.heap.size + 1, 0, none⟩ = some (.int .i64 x0) ∧ w1.cell? ⟨w.heap.size + 1, 1, none⟩ = some (.int .i64 x1) ∧ Below w.heap.size w w1) → Below w.heap.size w w1) := ⟨fun w1 h => h.2.2.2.2.2.2.2.2.2.2.2⟩
  go_wp2_with (first
    | (go_at_call 4; (with_reducible refine (LV _).out.mono ?_); rintro e w' ⟨rfl, hb⟩; replace HB := Aside0.mk (HB.out.trans (hb.mono HB.out.size)); replace BX := Aside0.mk (BX.out.below hb); clear hb))
  have HS : w'.cell? ⟨w.heap.size, 0, none⟩ = some (.int .i64 a0) ∧ w'.cell? ⟨w.heap.size, 1, none⟩ = some (.int .i64 a1) ∧ w'.cell? ⟨w.heap.size, 2, none⟩ = some (.int .i64 a2) ∧ w'.cell? ⟨w.heap.size, 3, none⟩ = some (.int .i64 a3) ∧ w'.cell? ⟨w.heap.size, 4, none⟩ = some (.slice A4 l4 c4) ∧ w'.cell? ⟨w.heap.size, 5, none⟩ = some (.int .i64 a5) ∧ w'.cell? ⟨w.heap.size, 6, none⟩ = some (.int .i64 a6) ∧ w'.cell? ⟨w.heap.size, 7, none⟩ = some (.slice A7 l7 c7) ∧ w'.cell? ⟨w.heap.size, 8, none⟩ = some (.int .i64 a8) ∧ w'.cell? ⟨w.heap.size + 1, 0, none⟩ = some (.int .i64 x0) ∧ w'.cell? ⟨w.heap.size + 1, 1, none⟩ = some (.int .i64 x1) ∧ Below w.heap.size w w' := ⟨BX.out.k0, BX.out.k1, BX.out.k2, BX.out.k3, BX.out.k4, BX.out.k5, BX.out.k6, BX.out.k7, BX.out.k8, BX.out.p0, BX.out.p1, HB.out⟩
  go_region_held3 (fun u => u.cell? ⟨w.heap.size, 0, none⟩ = some (.int .i64 a0) ∧ u.cell? ⟨w.heap.size, 1, none⟩ = some (.int .i64 a1) ∧ u.cell? ⟨w.heap.size, 2, none⟩ = some (.int .i64 a2) ∧ u.cell? ⟨w.heap.size, 3, none⟩ = some (.int .i64 a3) ∧ u.cell? ⟨w.heap.size, 4, none⟩ = some (.slice A4 l4 c4) ∧ u.cell? ⟨w.heap.size, 5, none⟩ = some (.int .i64 a5) ∧ u.cell? ⟨w.heap.size, 6, none⟩ = some (.int .i64 a6) ∧ u.cell? ⟨w.heap.size, 7, none⟩ = some (.slice A7 l7 c7) ∧ u.cell? ⟨w.heap.size, 8, none⟩ = some (.int .i64 a8) ∧ u.cell? ⟨w.heap.size + 1, 0, none⟩ = some (.int .i64 x0) ∧ u.cell? ⟨w.heap.size + 1, 1, none⟩ = some (.int .i64 x1) ∧ Below w.heap.size w u) (first | exact SD.out _ (by assumption) | exact SB.out _ _ (by assumption) (by assumption))
    (first
      | (go_at_call 5; (with_reducible refine (CF _ (SG.out _ (by assumption))).out.mono ?_); rintro e w2 ⟨rfl, hb⟩)
      | (go_at_call 6; (with_reducible refine (CR _ (SG.out _ (by assumption))).out.mono ?_); rintro e w2 ⟨rfl, hb⟩))
  rename_i hS2
  obtain ⟨_, _, _, _, _, _, _, _, _, p0, p1, HB2⟩ := hS2
  clear HS HB BX SB SD SG CF CR
  have HB2 := Aside0.mk HB2
  go_wp2_with (first
    | (go_at_call 7; (with_reducible refine (CB _).out.mono ?_); rintro e w3 ⟨a, rfl, hP⟩; have hb3 := Aside0.mk (PB.out _ _ _ hP); have q0 := cell_below hb3.out p0; have q1 := cell_below hb3.out p1)
    | (go_at_call 8; (with_reducible refine (CL _ _ _ hP).out.mono ?_); rintro e w4 ⟨rfl, hQ⟩; have hb4 := Aside0.mk (QB.out _ _ _ hQ); have r0 := cell_below hb4.out p0; have r1 := cell_below hb4.out p1)
    | (go_at_call 9; (with_reducible refine (CC _ _ _ hQ).out.mono ?_); rintro e w5 ⟨rfl, hb5⟩))
  all_goals go_ret
  all_goals exact ⟨by first | rfl | (simp; done), HB2.out.trans (hb5.mono HB2.out.size)⟩
theorem law_1n (LV : ∀ W : World, Calls Tryz.prog 4 #[] W fun e w' => e = .returned (.bool true) ∧ Below W.heap.size W w')
    (P Q : World → World → Value → Prop)
    (PB : ∀ W w v, P W w v → Below W.heap.size W w) (QB : ∀ W w v, Q W w v → Below W.heap.size W w)
    (BG : ∀ W, Calls Tryz.prog 7 #[.bool true, .int .i64 0, .slice none 0 0] W fun e w' => ∃ a, e = .returned (.pointer (some a)) ∧ P W w' (.pointer (some a)))
    (x1 : Int) (hx : x1 < 0)
    (FL : ∀ W w v, P W w v → Calls Tryz.prog 8 #[v, .int .i64 x1, .int .i64 1] w fun e w' => e = .returned (.int .i64 5) ∧ Q W w' v)
    (CH : ∀ W w v, Q W w v → Calls Tryz.prog 9 #[v] w fun e w' => e = .returned (.slice none 0 0) ∧ Below W.heap.size W w')
    (a0 a1 a2 a3 a5 a6 a8 : Int) (A4 : Option Addr) (l4 c4 : Nat) (A7 : Option Addr) (l7 c7 : Nat) (A : Option Addr) (c : Nat) (m : List Int) (w : World) (hmax : m.length ≤ 9223372036854775807) (hc : m.length ≤ c) (hr : IRow w A m) :
    Calls Tryz.prog 3 #[.agg #[.int .i64 a0, .int .i64 a1, .int .i64 a2, .int .i64 a3, .slice A4 l4 c4, .int .i64 a5, .int .i64 a6, .slice A7 l7 c7, .int .i64 a8], .slice A m.length c, .agg #[.int .i64 1, .int .i64 x1]] w fun e w' => e = .returned (.bool true) ∧ Below w.heap.size w w' := by
  have LV := fun W : World => Aside0.mk (LV W)
  have CF := fun (W : World) (hb : Below w.heap.size w W) => Aside0.mk (fits_calls 1 a0 a1 a2 a3 a5 a6 a8 A4 l4 c4 A7 l7 c7 A c m W hmax hc (row_below hb hr))
  have CR := fun (W : World) (hb : Below w.heap.size w W) => Aside0.mk (ref_calls 1 a0 a1 a2 a3 a5 a6 a8 A4 l4 c4 A7 l7 c7 A c m W hmax hc (row_below hb hr))
  have CB := fun (W : World) => Aside0.mk (BG W)
  have CL := fun (V W : World) (v : Value) (h : P V W v) => Aside0.mk (FL V W v h)
  have CC := fun (V W : World) (v : Value) (h : Q V W v) => Aside0.mk (CH V W v h)
  have PB := Aside0.mk PB
  have QB := Aside0.mk QB
  have HB := Aside0.mk (below_box2 w (.cells #[.int .i64 a0, .int .i64 a1, .int .i64 a2, .int .i64 a3, .slice A4 l4 c4, .int .i64 a5, .int .i64 a6, .slice A7 l7 c7, .int .i64 a8] 25) (.cells #[.int .i64 1, .int .i64 x1] 26))
  have BX := Aside0.mk (Bx.init w 25 26 (.int .i64 a0) (.int .i64 a1) (.int .i64 a2) (.int .i64 a3) (.slice A4 l4 c4) (.int .i64 a5) (.int .i64 a6) (.slice A7 l7 c7) (.int .i64 a8) (.int .i64 1) (.int .i64 x1))
  have d0 : decide (x1 < 0) = true := decide_eq_true hx
  generalize fits a3 m 1 = t at *
  clear hr hmax hc hx
  go_enter Tryz.func3, Tryz.ntmps3
  have SB : Aside0 (∀ w1 w2 : World, Below w1.heap.size w1 w2 → (w1.cell? ⟨w.heap.size, 0, none⟩ = some (.int .i64 a0) ∧ w1.cell? ⟨w.heap.size, 1, none⟩ = some (.int .i64 a1) ∧ w1.cell? ⟨w.heap.size, 2, none⟩ = some (.int .i64 a2) ∧ w1.cell? ⟨w.heap.size, 3, none⟩ = some (.int .i64 a3) ∧ w1.cell? ⟨w.heap.size, 4, none⟩ = some (.slice A4 l4 c4) ∧ w1.cell? ⟨w.heap.size, 5, none⟩ = some (.int .i64 a5) ∧ w1.cell? ⟨w.heap.size, 6, none⟩ = some (.int .i64 a6) ∧ w1.cell? ⟨w.heap.size, 7, none⟩ = some (.slice A7 l7 c7) ∧ w1.cell? ⟨w.heap.size, 8, none⟩ = some (.int .i64 a8) ∧ w1.cell? ⟨w.heap.size + 1, 0, none⟩ = some (.int .i64 1) ∧ w1.cell? ⟨w.heap.size + 1, 1, none⟩ = some (.int .i64 x1) ∧ Below w.heap.size w w1) → (w2.cell? ⟨w.heap.size, 0, none⟩ = some (.int .i64 a0) ∧ w2.cell? ⟨w.heap.size, 1, none⟩ = some (.int .i64 a1) ∧ w2.cell? ⟨w.heap.size, 2, none⟩ = some (.int .i64 a2) ∧ w2.cell? ⟨w.heap.size, 3, none⟩ = some (.int .i64 a3) ∧ w2.cell? ⟨w.heap.size, 4, none⟩ = some (.slice A4 l4 c4) ∧ w2.cell? ⟨w.heap.size, 5, none⟩ = some (.int .i64 a5) ∧ w2.cell? ⟨w.heap.size, 6, none⟩ = some (.int .i64 a6) ∧ w2.cell? ⟨w.heap.size, 7, none⟩ = some (.slice A7 l7 c7) ∧ w2.cell? ⟨w.heap.size, 8, none⟩ = some (.int .i64 a8) ∧ w2.cell? ⟨w.heap.size + 1, 0, none⟩ = some (.int .i64 1) ∧ w2.cell? ⟨w.heap.size + 1, 1, none⟩ = some (.int .i64 x1) ∧ Below w.heap.size w w2)) := ⟨fun w1 w2 hb h => by
    obtain ⟨k0, k1, k2, k3, k4, k5, k6, k7, k8, p0, p1, hB⟩ := h
    exact ⟨cell_below hb k0, cell_below hb k1, cell_below hb k2, cell_below hb k3, cell_below hb k4, cell_below hb k5, cell_below hb k6, cell_below hb k7, cell_below hb k8, cell_below hb p0, cell_below hb p1, hB.trans (hb.mono hB.size)⟩⟩
  have SD : Aside0 (∀ w1 : World, (w1.cell? ⟨w.heap.size, 0, none⟩ = some (.int .i64 a0) ∧ w1.cell? ⟨w.heap.size, 1, none⟩ = some (.int .i64 a1) ∧ w1.cell? ⟨w.heap.size, 2, none⟩ = some (.int .i64 a2) ∧ w1.cell? ⟨w.heap.size, 3, none⟩ = some (.int .i64 a3) ∧ w1.cell? ⟨w.heap.size, 4, none⟩ = some (.slice A4 l4 c4) ∧ w1.cell? ⟨w.heap.size, 5, none⟩ = some (.int .i64 a5) ∧ w1.cell? ⟨w.heap.size, 6, none⟩ = some (.int .i64 a6) ∧ w1.cell? ⟨w.heap.size, 7, none⟩ = some (.slice A7 l7 c7) ∧ w1.cell? ⟨w.heap.size, 8, none⟩ = some (.int .i64 a8) ∧ w1.cell? ⟨w.heap.size + 1, 0, none⟩ = some (.int .i64 1) ∧ w1.cell? ⟨w.heap.size + 1, 1, none⟩ = some (.int .i64 x1) ∧ Below w.heap.size w w1) → (w1.drew.cell? ⟨w.heap.size, 0, none⟩ = some (.int .i64 a0) ∧ w1.drew.cell? ⟨w.heap.size, 1, none⟩ = some (.int .i64 a1) ∧ w1.drew.cell? ⟨w.heap.size, 2, none⟩ = some (.int .i64 a2) ∧ w1.drew.cell? ⟨w.heap.size, 3, none⟩ = some (.int .i64 a3) ∧ w1.drew.cell? ⟨w.heap.size, 4, none⟩ = some (.slice A4 l4 c4) ∧ w1.drew.cell? ⟨w.heap.size, 5, none⟩ = some (.int .i64 a5) ∧ w1.drew.cell? ⟨w.heap.size, 6, none⟩ = some (.int .i64 a6) ∧ w1.drew.cell? ⟨w.heap.size, 7, none⟩ = some (.slice A7 l7 c7) ∧ w1.drew.cell? ⟨w.heap.size, 8, none⟩ = some (.int .i64 a8) ∧ w1.drew.cell? ⟨w.heap.size + 1, 0, none⟩ = some (.int .i64 1) ∧ w1.drew.cell? ⟨w.heap.size + 1, 1, none⟩ = some (.int .i64 x1) ∧ Below w.heap.size w w1.drew)) := ⟨fun w1 h => by
    obtain ⟨k0, k1, k2, k3, k4, k5, k6, k7, k8, p0, p1, hB⟩ := h
    exact ⟨k0, k1, k2, k3, k4, k5, k6, k7, k8, p0, p1, hB.os, hB.tape, hB.output, hB.size, hB.block⟩⟩
  have SG : Aside0 (∀ w1 : World, (w1.cell? ⟨w.heap.size, 0, none⟩ = some (.int .i64 a0) ∧ w1.cell? ⟨w.heap.size, 1, none⟩ = some (.int .i64 a1) ∧ w1.cell? ⟨w.heap.size, 2, none⟩ = some (.int .i64 a2) ∧ w1.cell? ⟨w.heap.size, 3, none⟩ = some (.int .i64 a3) ∧ w1.cell? ⟨w.heap.size, 4, none⟩ = some (.slice A4 l4 c4) ∧ w1.cell? ⟨w.heap.size, 5, none⟩ = some (.int .i64 a5) ∧ w1.cell? ⟨w.heap.size, 6, none⟩ = some (.int .i64 a6) ∧ w1.cell? ⟨w.heap.size, 7, none⟩ = some (.slice A7 l7 c7) ∧ w1.cell? ⟨w.heap.size, 8, none⟩ = some (.int .i64 a8) ∧ w1.cell? ⟨w.heap.size + 1, 0, none⟩ = some (.int .i64 1) ∧ w1.cell? ⟨w.heap.size + 1, 1, none⟩ = some (.int .i64 x1) ∧ Below w.heap.size w w1) → Below w.heap.size w w1) := ⟨fun w1 h => h.2.2.2.2.2.2.2.2.2.2.2⟩
  go_wp2_with (first
    | (go_at_call 4; (with_reducible refine (LV _).out.mono ?_); rintro e w' ⟨rfl, hb⟩; replace HB := Aside0.mk (HB.out.trans (hb.mono HB.out.size)); replace BX := Aside0.mk (BX.out.below hb); clear hb))
  have HS : w'.cell? ⟨w.heap.size, 0, none⟩ = some (.int .i64 a0) ∧ w'.cell? ⟨w.heap.size, 1, none⟩ = some (.int .i64 a1) ∧ w'.cell? ⟨w.heap.size, 2, none⟩ = some (.int .i64 a2) ∧ w'.cell? ⟨w.heap.size, 3, none⟩ = some (.int .i64 a3) ∧ w'.cell? ⟨w.heap.size, 4, none⟩ = some (.slice A4 l4 c4) ∧ w'.cell? ⟨w.heap.size, 5, none⟩ = some (.int .i64 a5) ∧ w'.cell? ⟨w.heap.size, 6, none⟩ = some (.int .i64 a6) ∧ w'.cell? ⟨w.heap.size, 7, none⟩ = some (.slice A7 l7 c7) ∧ w'.cell? ⟨w.heap.size, 8, none⟩ = some (.int .i64 a8) ∧ w'.cell? ⟨w.heap.size + 1, 0, none⟩ = some (.int .i64 1) ∧ w'.cell? ⟨w.heap.size + 1, 1, none⟩ = some (.int .i64 x1) ∧ Below w.heap.size w w' := ⟨BX.out.k0, BX.out.k1, BX.out.k2, BX.out.k3, BX.out.k4, BX.out.k5, BX.out.k6, BX.out.k7, BX.out.k8, BX.out.p0, BX.out.p1, HB.out⟩
  go_region_held3 (fun u => u.cell? ⟨w.heap.size, 0, none⟩ = some (.int .i64 a0) ∧ u.cell? ⟨w.heap.size, 1, none⟩ = some (.int .i64 a1) ∧ u.cell? ⟨w.heap.size, 2, none⟩ = some (.int .i64 a2) ∧ u.cell? ⟨w.heap.size, 3, none⟩ = some (.int .i64 a3) ∧ u.cell? ⟨w.heap.size, 4, none⟩ = some (.slice A4 l4 c4) ∧ u.cell? ⟨w.heap.size, 5, none⟩ = some (.int .i64 a5) ∧ u.cell? ⟨w.heap.size, 6, none⟩ = some (.int .i64 a6) ∧ u.cell? ⟨w.heap.size, 7, none⟩ = some (.slice A7 l7 c7) ∧ u.cell? ⟨w.heap.size, 8, none⟩ = some (.int .i64 a8) ∧ u.cell? ⟨w.heap.size + 1, 0, none⟩ = some (.int .i64 1) ∧ u.cell? ⟨w.heap.size + 1, 1, none⟩ = some (.int .i64 x1) ∧ Below w.heap.size w u) (first | exact SD.out _ (by assumption) | exact SB.out _ _ (by assumption) (by assumption))
    (first
      | (go_at_call 5; (with_reducible refine (CF _ (SG.out _ (by assumption))).out.mono ?_); rintro e w2 ⟨rfl, hb⟩)
      | (go_at_call 6; (with_reducible refine (CR _ (SG.out _ (by assumption))).out.mono ?_); rintro e w2 ⟨rfl, hb⟩))
  rename_i hS2
  obtain ⟨_, _, _, _, _, _, _, _, _, p0, p1, HB2⟩ := hS2
  clear HS HB BX SB SD SG CF CR
  have HB2 := Aside0.mk HB2
  go_wp2_with (first
    | (go_at_call 7; (with_reducible refine (CB _).out.mono ?_); rintro e w3 ⟨a, rfl, hP⟩; have hb3 := Aside0.mk (PB.out _ _ _ hP); have q0 := cell_below hb3.out p0; have q1 := cell_below hb3.out p1)
    | (go_at_call 8; (with_reducible refine (CL _ _ _ hP).out.mono ?_); rintro e w4 ⟨rfl, hQ⟩; have hb4 := Aside0.mk (QB.out _ _ _ hQ); have r0 := cell_below hb4.out p0; have r1 := cell_below hb4.out p1)
    | (go_at_call 9; (with_reducible refine (CC _ _ _ hQ).out.mono ?_); rintro e w5 ⟨rfl, hb5⟩))
  all_goals go_ret
  all_goals exact ⟨by first | rfl | (simp; done), HB2.out.trans (hb5.mono HB2.out.size)⟩
theorem law_1b (LV : ∀ W : World, Calls Tryz.prog 4 #[] W fun e w' => e = .returned (.bool true) ∧ Below W.heap.size W w')
    (P Q : World → World → Value → Prop)
    (PB : ∀ W w v, P W w v → Below W.heap.size W w) (QB : ∀ W w v, Q W w v → Below W.heap.size W w)
    (BG : ∀ W, Calls Tryz.prog 7 #[.bool true, .int .i64 0, .slice none 0 0] W fun e w' => ∃ a, e = .returned (.pointer (some a)) ∧ P W w' (.pointer (some a)))
    (x1 : Int) (hx : 31 < x1)
    (FL : ∀ W w v, P W w v → Calls Tryz.prog 8 #[v, .int .i64 x1, .int .i64 1] w fun e w' => e = .returned (.int .i64 5) ∧ Q W w' v)
    (CH : ∀ W w v, Q W w v → Calls Tryz.prog 9 #[v] w fun e w' => e = .returned (.slice none 0 0) ∧ Below W.heap.size W w')
    (a0 a1 a2 a3 a5 a6 a8 : Int) (A4 : Option Addr) (l4 c4 : Nat) (A7 : Option Addr) (l7 c7 : Nat) (A : Option Addr) (c : Nat) (m : List Int) (w : World) (hmax : m.length ≤ 9223372036854775807) (hc : m.length ≤ c) (hr : IRow w A m) :
    Calls Tryz.prog 3 #[.agg #[.int .i64 a0, .int .i64 a1, .int .i64 a2, .int .i64 a3, .slice A4 l4 c4, .int .i64 a5, .int .i64 a6, .slice A7 l7 c7, .int .i64 a8], .slice A m.length c, .agg #[.int .i64 1, .int .i64 x1]] w fun e w' => e = .returned (.bool true) ∧ Below w.heap.size w w' := by
  have LV := fun W : World => Aside0.mk (LV W)
  have CF := fun (W : World) (hb : Below w.heap.size w W) => Aside0.mk (fits_calls 1 a0 a1 a2 a3 a5 a6 a8 A4 l4 c4 A7 l7 c7 A c m W hmax hc (row_below hb hr))
  have CR := fun (W : World) (hb : Below w.heap.size w W) => Aside0.mk (ref_calls 1 a0 a1 a2 a3 a5 a6 a8 A4 l4 c4 A7 l7 c7 A c m W hmax hc (row_below hb hr))
  have CB := fun (W : World) => Aside0.mk (BG W)
  have CL := fun (V W : World) (v : Value) (h : P V W v) => Aside0.mk (FL V W v h)
  have CC := fun (V W : World) (v : Value) (h : Q V W v) => Aside0.mk (CH V W v h)
  have PB := Aside0.mk PB
  have QB := Aside0.mk QB
  have HB := Aside0.mk (below_box2 w (.cells #[.int .i64 a0, .int .i64 a1, .int .i64 a2, .int .i64 a3, .slice A4 l4 c4, .int .i64 a5, .int .i64 a6, .slice A7 l7 c7, .int .i64 a8] 25) (.cells #[.int .i64 1, .int .i64 x1] 26))
  have BX := Aside0.mk (Bx.init w 25 26 (.int .i64 a0) (.int .i64 a1) (.int .i64 a2) (.int .i64 a3) (.slice A4 l4 c4) (.int .i64 a5) (.int .i64 a6) (.slice A7 l7 c7) (.int .i64 a8) (.int .i64 1) (.int .i64 x1))
  have d0 : decide (x1 < 0) = false := decide_eq_false (by omega)
  have d1 : decide (31 < x1) = true := decide_eq_true hx
  have d2 : decide (x1 > 31) = true := decide_eq_true hx
  generalize fits a3 m 1 = t at *
  clear hr hmax hc hx
  go_enter Tryz.func3, Tryz.ntmps3
  have SB : Aside0 (∀ w1 w2 : World, Below w1.heap.size w1 w2 → (w1.cell? ⟨w.heap.size, 0, none⟩ = some (.int .i64 a0) ∧ w1.cell? ⟨w.heap.size, 1, none⟩ = some (.int .i64 a1) ∧ w1.cell? ⟨w.heap.size, 2, none⟩ = some (.int .i64 a2) ∧ w1.cell? ⟨w.heap.size, 3, none⟩ = some (.int .i64 a3) ∧ w1.cell? ⟨w.heap.size, 4, none⟩ = some (.slice A4 l4 c4) ∧ w1.cell? ⟨w.heap.size, 5, none⟩ = some (.int .i64 a5) ∧ w1.cell? ⟨w.heap.size, 6, none⟩ = some (.int .i64 a6) ∧ w1.cell? ⟨w.heap.size, 7, none⟩ = some (.slice A7 l7 c7) ∧ w1.cell? ⟨w.heap.size, 8, none⟩ = some (.int .i64 a8) ∧ w1.cell? ⟨w.heap.size + 1, 0, none⟩ = some (.int .i64 1) ∧ w1.cell? ⟨w.heap.size + 1, 1, none⟩ = some (.int .i64 x1) ∧ Below w.heap.size w w1) → (w2.cell? ⟨w.heap.size, 0, none⟩ = some (.int .i64 a0) ∧ w2.cell? ⟨w.heap.size, 1, none⟩ = some (.int .i64 a1) ∧ w2.cell? ⟨w.heap.size, 2, none⟩ = some (.int .i64 a2) ∧ w2.cell? ⟨w.heap.size, 3, none⟩ = some (.int .i64 a3) ∧ w2.cell? ⟨w.heap.size, 4, none⟩ = some (.slice A4 l4 c4) ∧ w2.cell? ⟨w.heap.size, 5, none⟩ = some (.int .i64 a5) ∧ w2.cell? ⟨w.heap.size, 6, none⟩ = some (.int .i64 a6) ∧ w2.cell? ⟨w.heap.size, 7, none⟩ = some (.slice A7 l7 c7) ∧ w2.cell? ⟨w.heap.size, 8, none⟩ = some (.int .i64 a8) ∧ w2.cell? ⟨w.heap.size + 1, 0, none⟩ = some (.int .i64 1) ∧ w2.cell? ⟨w.heap.size + 1, 1, none⟩ = some (.int .i64 x1) ∧ Below w.heap.size w w2)) := ⟨fun w1 w2 hb h => by
    obtain ⟨k0, k1, k2, k3, k4, k5, k6, k7, k8, p0, p1, hB⟩ := h
    exact ⟨cell_below hb k0, cell_below hb k1, cell_below hb k2, cell_below hb k3, cell_below hb k4, cell_below hb k5, cell_below hb k6, cell_below hb k7, cell_below hb k8, cell_below hb p0, cell_below hb p1, hB.trans (hb.mono hB.size)⟩⟩
  have SD : Aside0 (∀ w1 : World, (w1.cell? ⟨w.heap.size, 0, none⟩ = some (.int .i64 a0) ∧ w1.cell? ⟨w.heap.size, 1, none⟩ = some (.int .i64 a1) ∧ w1.cell? ⟨w.heap.size, 2, none⟩ = some (.int .i64 a2) ∧ w1.cell? ⟨w.heap.size, 3, none⟩ = some (.int .i64 a3) ∧ w1.cell? ⟨w.heap.size, 4, none⟩ = some (.slice A4 l4 c4) ∧ w1.cell? ⟨w.heap.size, 5, none⟩ = some (.int .i64 a5) ∧ w1.cell? ⟨w.heap.size, 6, none⟩ = some (.int .i64 a6) ∧ w1.cell? ⟨w.heap.size, 7, none⟩ = some (.slice A7 l7 c7) ∧ w1.cell? ⟨w.heap.size, 8, none⟩ = some (.int .i64 a8) ∧ w1.cell? ⟨w.heap.size + 1, 0, none⟩ = some (.int .i64 1) ∧ w1.cell? ⟨w.heap.size + 1, 1, none⟩ = some (.int .i64 x1) ∧ Below w.heap.size w w1) → (w1.drew.cell? ⟨w.heap.size, 0, none⟩ = some (.int .i64 a0) ∧ w1.drew.cell? ⟨w.heap.size, 1, none⟩ = some (.int .i64 a1) ∧ w1.drew.cell? ⟨w.heap.size, 2, none⟩ = some (.int .i64 a2) ∧ w1.drew.cell? ⟨w.heap.size, 3, none⟩ = some (.int .i64 a3) ∧ w1.drew.cell? ⟨w.heap.size, 4, none⟩ = some (.slice A4 l4 c4) ∧ w1.drew.cell? ⟨w.heap.size, 5, none⟩ = some (.int .i64 a5) ∧ w1.drew.cell? ⟨w.heap.size, 6, none⟩ = some (.int .i64 a6) ∧ w1.drew.cell? ⟨w.heap.size, 7, none⟩ = some (.slice A7 l7 c7) ∧ w1.drew.cell? ⟨w.heap.size, 8, none⟩ = some (.int .i64 a8) ∧ w1.drew.cell? ⟨w.heap.size + 1, 0, none⟩ = some (.int .i64 1) ∧ w1.drew.cell? ⟨w.heap.size + 1, 1, none⟩ = some (.int .i64 x1) ∧ Below w.heap.size w w1.drew)) := ⟨fun w1 h => by
    obtain ⟨k0, k1, k2, k3, k4, k5, k6, k7, k8, p0, p1, hB⟩ := h
    exact ⟨k0, k1, k2, k3, k4, k5, k6, k7, k8, p0, p1, hB.os, hB.tape, hB.output, hB.size, hB.block⟩⟩
  have SG : Aside0 (∀ w1 : World, (w1.cell? ⟨w.heap.size, 0, none⟩ = some (.int .i64 a0) ∧ w1.cell? ⟨w.heap.size, 1, none⟩ = some (.int .i64 a1) ∧ w1.cell? ⟨w.heap.size, 2, none⟩ = some (.int .i64 a2) ∧ w1.cell? ⟨w.heap.size, 3, none⟩ = some (.int .i64 a3) ∧ w1.cell? ⟨w.heap.size, 4, none⟩ = some (.slice A4 l4 c4) ∧ w1.cell? ⟨w.heap.size, 5, none⟩ = some (.int .i64 a5) ∧ w1.cell? ⟨w.heap.size, 6, none⟩ = some (.int .i64 a6) ∧ w1.cell? ⟨w.heap.size, 7, none⟩ = some (.slice A7 l7 c7) ∧ w1.cell? ⟨w.heap.size, 8, none⟩ = some (.int .i64 a8) ∧ w1.cell? ⟨w.heap.size + 1, 0, none⟩ = some (.int .i64 1) ∧ w1.cell? ⟨w.heap.size + 1, 1, none⟩ = some (.int .i64 x1) ∧ Below w.heap.size w w1) → Below w.heap.size w w1) := ⟨fun w1 h => h.2.2.2.2.2.2.2.2.2.2.2⟩
  go_wp2_with (first
    | (go_at_call 4; (with_reducible refine (LV _).out.mono ?_); rintro e w' ⟨rfl, hb⟩; replace HB := Aside0.mk (HB.out.trans (hb.mono HB.out.size)); replace BX := Aside0.mk (BX.out.below hb); clear hb))
  have HS : w'.cell? ⟨w.heap.size, 0, none⟩ = some (.int .i64 a0) ∧ w'.cell? ⟨w.heap.size, 1, none⟩ = some (.int .i64 a1) ∧ w'.cell? ⟨w.heap.size, 2, none⟩ = some (.int .i64 a2) ∧ w'.cell? ⟨w.heap.size, 3, none⟩ = some (.int .i64 a3) ∧ w'.cell? ⟨w.heap.size, 4, none⟩ = some (.slice A4 l4 c4) ∧ w'.cell? ⟨w.heap.size, 5, none⟩ = some (.int .i64 a5) ∧ w'.cell? ⟨w.heap.size, 6, none⟩ = some (.int .i64 a6) ∧ w'.cell? ⟨w.heap.size, 7, none⟩ = some (.slice A7 l7 c7) ∧ w'.cell? ⟨w.heap.size, 8, none⟩ = some (.int .i64 a8) ∧ w'.cell? ⟨w.heap.size + 1, 0, none⟩ = some (.int .i64 1) ∧ w'.cell? ⟨w.heap.size + 1, 1, none⟩ = some (.int .i64 x1) ∧ Below w.heap.size w w' := ⟨BX.out.k0, BX.out.k1, BX.out.k2, BX.out.k3, BX.out.k4, BX.out.k5, BX.out.k6, BX.out.k7, BX.out.k8, BX.out.p0, BX.out.p1, HB.out⟩
  go_region_held3 (fun u => u.cell? ⟨w.heap.size, 0, none⟩ = some (.int .i64 a0) ∧ u.cell? ⟨w.heap.size, 1, none⟩ = some (.int .i64 a1) ∧ u.cell? ⟨w.heap.size, 2, none⟩ = some (.int .i64 a2) ∧ u.cell? ⟨w.heap.size, 3, none⟩ = some (.int .i64 a3) ∧ u.cell? ⟨w.heap.size, 4, none⟩ = some (.slice A4 l4 c4) ∧ u.cell? ⟨w.heap.size, 5, none⟩ = some (.int .i64 a5) ∧ u.cell? ⟨w.heap.size, 6, none⟩ = some (.int .i64 a6) ∧ u.cell? ⟨w.heap.size, 7, none⟩ = some (.slice A7 l7 c7) ∧ u.cell? ⟨w.heap.size, 8, none⟩ = some (.int .i64 a8) ∧ u.cell? ⟨w.heap.size + 1, 0, none⟩ = some (.int .i64 1) ∧ u.cell? ⟨w.heap.size + 1, 1, none⟩ = some (.int .i64 x1) ∧ Below w.heap.size w u) (first | exact SD.out _ (by assumption) | exact SB.out _ _ (by assumption) (by assumption))
    (first
      | (go_at_call 5; (with_reducible refine (CF _ (SG.out _ (by assumption))).out.mono ?_); rintro e w2 ⟨rfl, hb⟩)
      | (go_at_call 6; (with_reducible refine (CR _ (SG.out _ (by assumption))).out.mono ?_); rintro e w2 ⟨rfl, hb⟩))
  rename_i hS2
  obtain ⟨_, _, _, _, _, _, _, _, _, p0, p1, HB2⟩ := hS2
  clear HS HB BX SB SD SG CF CR
  have HB2 := Aside0.mk HB2
  go_wp2_with (first
    | (go_at_call 7; (with_reducible refine (CB _).out.mono ?_); rintro e w3 ⟨a, rfl, hP⟩; have hb3 := Aside0.mk (PB.out _ _ _ hP); have q0 := cell_below hb3.out p0; have q1 := cell_below hb3.out p1)
    | (go_at_call 8; (with_reducible refine (CL _ _ _ hP).out.mono ?_); rintro e w4 ⟨rfl, hQ⟩; have hb4 := Aside0.mk (QB.out _ _ _ hQ); have r0 := cell_below hb4.out p0; have r1 := cell_below hb4.out p1)
    | (go_at_call 9; (with_reducible refine (CC _ _ _ hQ).out.mono ?_); rintro e w5 ⟨rfl, hb5⟩))
  all_goals go_ret
  all_goals exact ⟨by first | rfl | (simp; done), HB2.out.trans (hb5.mono HB2.out.size)⟩
theorem law_1c (LV : ∀ W : World, Calls Tryz.prog 4 #[] W fun e w' => e = .returned (.bool true) ∧ Below W.heap.size W w')
    (P Q : World → World → Value → Prop)
    (PB : ∀ W w v, P W w v → Below W.heap.size W w) (QB : ∀ W w v, Q W w v → Below W.heap.size W w)
    (BG : ∀ W, Calls Tryz.prog 7 #[.bool true, .int .i64 0, .slice none 0 0] W fun e w' => ∃ a, e = .returned (.pointer (some a)) ∧ P W w' (.pointer (some a)))
    (x1 : Int) (hx : 0 ≤ x1) (hy : x1 ≤ 31)
    (FL : ∀ W w v, P W w v → Calls Tryz.prog 8 #[v, .int .i64 x1, .int .i64 1] w fun e w' => e = .returned (.int .i64 0) ∧ Q W w' v)
    (a0 a1 a2 a3 a5 a6 a8 : Int) (A4 : Option Addr) (l4 c4 : Nat) (A7 : Option Addr) (l7 c7 : Nat) (A : Option Addr) (c : Nat) (m : List Int) (w : World) (hmax : m.length ≤ 9223372036854775807) (hc : m.length ≤ c) (hr : IRow w A m) :
    Calls Tryz.prog 3 #[.agg #[.int .i64 a0, .int .i64 a1, .int .i64 a2, .int .i64 a3, .slice A4 l4 c4, .int .i64 a5, .int .i64 a6, .slice A7 l7 c7, .int .i64 a8], .slice A m.length c, .agg #[.int .i64 1, .int .i64 x1]] w fun e w' => e = .returned (.bool true) ∧ Below w.heap.size w w' := by
  have LV := fun W : World => Aside0.mk (LV W)
  have CF := fun (W : World) (hb : Below w.heap.size w W) => Aside0.mk (fits_calls 1 a0 a1 a2 a3 a5 a6 a8 A4 l4 c4 A7 l7 c7 A c m W hmax hc (row_below hb hr))
  have CR := fun (W : World) (hb : Below w.heap.size w W) => Aside0.mk (ref_calls 1 a0 a1 a2 a3 a5 a6 a8 A4 l4 c4 A7 l7 c7 A c m W hmax hc (row_below hb hr))
  have CB := fun (W : World) => Aside0.mk (BG W)
  have CL := fun (V W : World) (v : Value) (h : P V W v) => Aside0.mk (FL V W v h)
  have PB := Aside0.mk PB
  have QB := Aside0.mk QB
  have HB := Aside0.mk (below_box2 w (.cells #[.int .i64 a0, .int .i64 a1, .int .i64 a2, .int .i64 a3, .slice A4 l4 c4, .int .i64 a5, .int .i64 a6, .slice A7 l7 c7, .int .i64 a8] 25) (.cells #[.int .i64 1, .int .i64 x1] 26))
  have BX := Aside0.mk (Bx.init w 25 26 (.int .i64 a0) (.int .i64 a1) (.int .i64 a2) (.int .i64 a3) (.slice A4 l4 c4) (.int .i64 a5) (.int .i64 a6) (.slice A7 l7 c7) (.int .i64 a8) (.int .i64 1) (.int .i64 x1))
  have d0 : decide (x1 < 0) = false := decide_eq_false (by omega)
  have d1 : decide (31 < x1) = false := decide_eq_false (by omega)
  have d2 : decide (x1 > 31) = false := decide_eq_false (by omega)
  generalize fits a3 m 1 = t at *
  clear hr hmax hc hx hy
  go_enter Tryz.func3, Tryz.ntmps3
  have SB : Aside0 (∀ w1 w2 : World, Below w1.heap.size w1 w2 → (w1.cell? ⟨w.heap.size, 0, none⟩ = some (.int .i64 a0) ∧ w1.cell? ⟨w.heap.size, 1, none⟩ = some (.int .i64 a1) ∧ w1.cell? ⟨w.heap.size, 2, none⟩ = some (.int .i64 a2) ∧ w1.cell? ⟨w.heap.size, 3, none⟩ = some (.int .i64 a3) ∧ w1.cell? ⟨w.heap.size, 4, none⟩ = some (.slice A4 l4 c4) ∧ w1.cell? ⟨w.heap.size, 5, none⟩ = some (.int .i64 a5) ∧ w1.cell? ⟨w.heap.size, 6, none⟩ = some (.int .i64 a6) ∧ w1.cell? ⟨w.heap.size, 7, none⟩ = some (.slice A7 l7 c7) ∧ w1.cell? ⟨w.heap.size, 8, none⟩ = some (.int .i64 a8) ∧ w1.cell? ⟨w.heap.size + 1, 0, none⟩ = some (.int .i64 1) ∧ w1.cell? ⟨w.heap.size + 1, 1, none⟩ = some (.int .i64 x1) ∧ Below w.heap.size w w1) → (w2.cell? ⟨w.heap.size, 0, none⟩ = some (.int .i64 a0) ∧ w2.cell? ⟨w.heap.size, 1, none⟩ = some (.int .i64 a1) ∧ w2.cell? ⟨w.heap.size, 2, none⟩ = some (.int .i64 a2) ∧ w2.cell? ⟨w.heap.size, 3, none⟩ = some (.int .i64 a3) ∧ w2.cell? ⟨w.heap.size, 4, none⟩ = some (.slice A4 l4 c4) ∧ w2.cell? ⟨w.heap.size, 5, none⟩ = some (.int .i64 a5) ∧ w2.cell? ⟨w.heap.size, 6, none⟩ = some (.int .i64 a6) ∧ w2.cell? ⟨w.heap.size, 7, none⟩ = some (.slice A7 l7 c7) ∧ w2.cell? ⟨w.heap.size, 8, none⟩ = some (.int .i64 a8) ∧ w2.cell? ⟨w.heap.size + 1, 0, none⟩ = some (.int .i64 1) ∧ w2.cell? ⟨w.heap.size + 1, 1, none⟩ = some (.int .i64 x1) ∧ Below w.heap.size w w2)) := ⟨fun w1 w2 hb h => by
    obtain ⟨k0, k1, k2, k3, k4, k5, k6, k7, k8, p0, p1, hB⟩ := h
    exact ⟨cell_below hb k0, cell_below hb k1, cell_below hb k2, cell_below hb k3, cell_below hb k4, cell_below hb k5, cell_below hb k6, cell_below hb k7, cell_below hb k8, cell_below hb p0, cell_below hb p1, hB.trans (hb.mono hB.size)⟩⟩
  have SD : Aside0 (∀ w1 : World, (w1.cell? ⟨w.heap.size, 0, none⟩ = some (.int .i64 a0) ∧ w1.cell? ⟨w.heap.size, 1, none⟩ = some (.int .i64 a1) ∧ w1.cell? ⟨w.heap.size, 2, none⟩ = some (.int .i64 a2) ∧ w1.cell? ⟨w.heap.size, 3, none⟩ = some (.int .i64 a3) ∧ w1.cell? ⟨w.heap.size, 4, none⟩ = some (.slice A4 l4 c4) ∧ w1.cell? ⟨w.heap.size, 5, none⟩ = some (.int .i64 a5) ∧ w1.cell? ⟨w.heap.size, 6, none⟩ = some (.int .i64 a6) ∧ w1.cell? ⟨w.heap.size, 7, none⟩ = some (.slice A7 l7 c7) ∧ w1.cell? ⟨w.heap.size, 8, none⟩ = some (.int .i64 a8) ∧ w1.cell? ⟨w.heap.size + 1, 0, none⟩ = some (.int .i64 1) ∧ w1.cell? ⟨w.heap.size + 1, 1, none⟩ = some (.int .i64 x1) ∧ Below w.heap.size w w1) → (w1.drew.cell? ⟨w.heap.size, 0, none⟩ = some (.int .i64 a0) ∧ w1.drew.cell? ⟨w.heap.size, 1, none⟩ = some (.int .i64 a1) ∧ w1.drew.cell? ⟨w.heap.size, 2, none⟩ = some (.int .i64 a2) ∧ w1.drew.cell? ⟨w.heap.size, 3, none⟩ = some (.int .i64 a3) ∧ w1.drew.cell? ⟨w.heap.size, 4, none⟩ = some (.slice A4 l4 c4) ∧ w1.drew.cell? ⟨w.heap.size, 5, none⟩ = some (.int .i64 a5) ∧ w1.drew.cell? ⟨w.heap.size, 6, none⟩ = some (.int .i64 a6) ∧ w1.drew.cell? ⟨w.heap.size, 7, none⟩ = some (.slice A7 l7 c7) ∧ w1.drew.cell? ⟨w.heap.size, 8, none⟩ = some (.int .i64 a8) ∧ w1.drew.cell? ⟨w.heap.size + 1, 0, none⟩ = some (.int .i64 1) ∧ w1.drew.cell? ⟨w.heap.size + 1, 1, none⟩ = some (.int .i64 x1) ∧ Below w.heap.size w w1.drew)) := ⟨fun w1 h => by
    obtain ⟨k0, k1, k2, k3, k4, k5, k6, k7, k8, p0, p1, hB⟩ := h
    exact ⟨k0, k1, k2, k3, k4, k5, k6, k7, k8, p0, p1, hB.os, hB.tape, hB.output, hB.size, hB.block⟩⟩
  have SG : Aside0 (∀ w1 : World, (w1.cell? ⟨w.heap.size, 0, none⟩ = some (.int .i64 a0) ∧ w1.cell? ⟨w.heap.size, 1, none⟩ = some (.int .i64 a1) ∧ w1.cell? ⟨w.heap.size, 2, none⟩ = some (.int .i64 a2) ∧ w1.cell? ⟨w.heap.size, 3, none⟩ = some (.int .i64 a3) ∧ w1.cell? ⟨w.heap.size, 4, none⟩ = some (.slice A4 l4 c4) ∧ w1.cell? ⟨w.heap.size, 5, none⟩ = some (.int .i64 a5) ∧ w1.cell? ⟨w.heap.size, 6, none⟩ = some (.int .i64 a6) ∧ w1.cell? ⟨w.heap.size, 7, none⟩ = some (.slice A7 l7 c7) ∧ w1.cell? ⟨w.heap.size, 8, none⟩ = some (.int .i64 a8) ∧ w1.cell? ⟨w.heap.size + 1, 0, none⟩ = some (.int .i64 1) ∧ w1.cell? ⟨w.heap.size + 1, 1, none⟩ = some (.int .i64 x1) ∧ Below w.heap.size w w1) → Below w.heap.size w w1) := ⟨fun w1 h => h.2.2.2.2.2.2.2.2.2.2.2⟩
  go_wp2_with (first
    | (go_at_call 4; (with_reducible refine (LV _).out.mono ?_); rintro e w' ⟨rfl, hb⟩; replace HB := Aside0.mk (HB.out.trans (hb.mono HB.out.size)); replace BX := Aside0.mk (BX.out.below hb); clear hb))
  have HS : w'.cell? ⟨w.heap.size, 0, none⟩ = some (.int .i64 a0) ∧ w'.cell? ⟨w.heap.size, 1, none⟩ = some (.int .i64 a1) ∧ w'.cell? ⟨w.heap.size, 2, none⟩ = some (.int .i64 a2) ∧ w'.cell? ⟨w.heap.size, 3, none⟩ = some (.int .i64 a3) ∧ w'.cell? ⟨w.heap.size, 4, none⟩ = some (.slice A4 l4 c4) ∧ w'.cell? ⟨w.heap.size, 5, none⟩ = some (.int .i64 a5) ∧ w'.cell? ⟨w.heap.size, 6, none⟩ = some (.int .i64 a6) ∧ w'.cell? ⟨w.heap.size, 7, none⟩ = some (.slice A7 l7 c7) ∧ w'.cell? ⟨w.heap.size, 8, none⟩ = some (.int .i64 a8) ∧ w'.cell? ⟨w.heap.size + 1, 0, none⟩ = some (.int .i64 1) ∧ w'.cell? ⟨w.heap.size + 1, 1, none⟩ = some (.int .i64 x1) ∧ Below w.heap.size w w' := ⟨BX.out.k0, BX.out.k1, BX.out.k2, BX.out.k3, BX.out.k4, BX.out.k5, BX.out.k6, BX.out.k7, BX.out.k8, BX.out.p0, BX.out.p1, HB.out⟩
  go_region_held3 (fun u => u.cell? ⟨w.heap.size, 0, none⟩ = some (.int .i64 a0) ∧ u.cell? ⟨w.heap.size, 1, none⟩ = some (.int .i64 a1) ∧ u.cell? ⟨w.heap.size, 2, none⟩ = some (.int .i64 a2) ∧ u.cell? ⟨w.heap.size, 3, none⟩ = some (.int .i64 a3) ∧ u.cell? ⟨w.heap.size, 4, none⟩ = some (.slice A4 l4 c4) ∧ u.cell? ⟨w.heap.size, 5, none⟩ = some (.int .i64 a5) ∧ u.cell? ⟨w.heap.size, 6, none⟩ = some (.int .i64 a6) ∧ u.cell? ⟨w.heap.size, 7, none⟩ = some (.slice A7 l7 c7) ∧ u.cell? ⟨w.heap.size, 8, none⟩ = some (.int .i64 a8) ∧ u.cell? ⟨w.heap.size + 1, 0, none⟩ = some (.int .i64 1) ∧ u.cell? ⟨w.heap.size + 1, 1, none⟩ = some (.int .i64 x1) ∧ Below w.heap.size w u) (first | exact SD.out _ (by assumption) | exact SB.out _ _ (by assumption) (by assumption))
    (first
      | (go_at_call 5; (with_reducible refine (CF _ (SG.out _ (by assumption))).out.mono ?_); rintro e w2 ⟨rfl, hb⟩)
      | (go_at_call 6; (with_reducible refine (CR _ (SG.out _ (by assumption))).out.mono ?_); rintro e w2 ⟨rfl, hb⟩))
  rename_i hS2
  obtain ⟨_, _, _, _, _, _, _, _, _, p0, p1, HB2⟩ := hS2
  clear HS HB BX SB SD SG CF CR
  have HB2 := Aside0.mk HB2
  go_wp2_with (first
    | (go_at_call 7; (with_reducible refine (CB _).out.mono ?_); rintro e w3 ⟨a, rfl, hP⟩; have hb3 := Aside0.mk (PB.out _ _ _ hP); have q0 := cell_below hb3.out p0; have q1 := cell_below hb3.out p1)
    | (go_at_call 8; (with_reducible refine (CL _ _ _ hP).out.mono ?_); rintro e w4 ⟨rfl, hQ⟩; have hb4 := Aside0.mk (QB.out _ _ _ hQ); have r0 := cell_below hb4.out p0; have r1 := cell_below hb4.out p1))
  all_goals go_ret
  all_goals exact ⟨by first | rfl | (simp; done), HB2.out.trans (hb4.out.mono HB2.out.size)⟩
theorem law_2n (LV : ∀ W : World, Calls Tryz.prog 4 #[] W fun e w' => e = .returned (.bool true) ∧ Below W.heap.size W w')
    (P Q : World → World → Value → Prop)
    (PB : ∀ W w v, P W w v → Below W.heap.size W w) (QB : ∀ W w v, Q W w v → Below W.heap.size W w)
    (BG : ∀ W, Calls Tryz.prog 7 #[.bool true, .int .i64 0, .slice none 0 0] W fun e w' => ∃ a, e = .returned (.pointer (some a)) ∧ P W w' (.pointer (some a)))
    (x1 : Int) (hx : x1 < 0)
    (FL : ∀ W w v, P W w v → Calls Tryz.prog 8 #[v, .int .i64 x1, .int .i64 2] w fun e w' => e = .returned (.int .i64 5) ∧ Q W w' v)
    (CH : ∀ W w v, Q W w v → Calls Tryz.prog 9 #[v] w fun e w' => e = .returned (.slice none 0 0) ∧ Below W.heap.size W w')
    (a0 a1 a2 a3 a5 a6 a8 : Int) (A4 : Option Addr) (l4 c4 : Nat) (A7 : Option Addr) (l7 c7 : Nat) (A : Option Addr) (c : Nat) (m : List Int) (w : World) (hmax : m.length ≤ 9223372036854775807) (hc : m.length ≤ c) (hr : IRow w A m) :
    Calls Tryz.prog 3 #[.agg #[.int .i64 a0, .int .i64 a1, .int .i64 a2, .int .i64 a3, .slice A4 l4 c4, .int .i64 a5, .int .i64 a6, .slice A7 l7 c7, .int .i64 a8], .slice A m.length c, .agg #[.int .i64 2, .int .i64 x1]] w fun e w' => e = .returned (.bool true) ∧ Below w.heap.size w w' := by
  have LV := fun W : World => Aside0.mk (LV W)
  have CF := fun (W : World) (hb : Below w.heap.size w W) => Aside0.mk (fits_calls 2 a0 a1 a2 a3 a5 a6 a8 A4 l4 c4 A7 l7 c7 A c m W hmax hc (row_below hb hr))
  have CR := fun (W : World) (hb : Below w.heap.size w W) => Aside0.mk (ref_calls 2 a0 a1 a2 a3 a5 a6 a8 A4 l4 c4 A7 l7 c7 A c m W hmax hc (row_below hb hr))
  have CB := fun (W : World) => Aside0.mk (BG W)
  have CL := fun (V W : World) (v : Value) (h : P V W v) => Aside0.mk (FL V W v h)
  have CC := fun (V W : World) (v : Value) (h : Q V W v) => Aside0.mk (CH V W v h)
  have PB := Aside0.mk PB
  have QB := Aside0.mk QB
  have HB := Aside0.mk (below_box2 w (.cells #[.int .i64 a0, .int .i64 a1, .int .i64 a2, .int .i64 a3, .slice A4 l4 c4, .int .i64 a5, .int .i64 a6, .slice A7 l7 c7, .int .i64 a8] 25) (.cells #[.int .i64 2, .int .i64 x1] 26))
  have BX := Aside0.mk (Bx.init w 25 26 (.int .i64 a0) (.int .i64 a1) (.int .i64 a2) (.int .i64 a3) (.slice A4 l4 c4) (.int .i64 a5) (.int .i64 a6) (.slice A7 l7 c7) (.int .i64 a8) (.int .i64 2) (.int .i64 x1))
  have d0 : decide (x1 < 0) = true := decide_eq_true hx
  generalize fits a3 m 2 = t at *
  clear hr hmax hc hx
  go_enter Tryz.func3, Tryz.ntmps3
  have SB : Aside0 (∀ w1 w2 : World, Below w1.heap.size w1 w2 → (w1.cell? ⟨w.heap.size, 0, none⟩ = some (.int .i64 a0) ∧ w1.cell? ⟨w.heap.size, 1, none⟩ = some (.int .i64 a1) ∧ w1.cell? ⟨w.heap.size, 2, none⟩ = some (.int .i64 a2) ∧ w1.cell? ⟨w.heap.size, 3, none⟩ = some (.int .i64 a3) ∧ w1.cell? ⟨w.heap.size, 4, none⟩ = some (.slice A4 l4 c4) ∧ w1.cell? ⟨w.heap.size, 5, none⟩ = some (.int .i64 a5) ∧ w1.cell? ⟨w.heap.size, 6, none⟩ = some (.int .i64 a6) ∧ w1.cell? ⟨w.heap.size, 7, none⟩ = some (.slice A7 l7 c7) ∧ w1.cell? ⟨w.heap.size, 8, none⟩ = some (.int .i64 a8) ∧ w1.cell? ⟨w.heap.size + 1, 0, none⟩ = some (.int .i64 2) ∧ w1.cell? ⟨w.heap.size + 1, 1, none⟩ = some (.int .i64 x1) ∧ Below w.heap.size w w1) → (w2.cell? ⟨w.heap.size, 0, none⟩ = some (.int .i64 a0) ∧ w2.cell? ⟨w.heap.size, 1, none⟩ = some (.int .i64 a1) ∧ w2.cell? ⟨w.heap.size, 2, none⟩ = some (.int .i64 a2) ∧ w2.cell? ⟨w.heap.size, 3, none⟩ = some (.int .i64 a3) ∧ w2.cell? ⟨w.heap.size, 4, none⟩ = some (.slice A4 l4 c4) ∧ w2.cell? ⟨w.heap.size, 5, none⟩ = some (.int .i64 a5) ∧ w2.cell? ⟨w.heap.size, 6, none⟩ = some (.int .i64 a6) ∧ w2.cell? ⟨w.heap.size, 7, none⟩ = some (.slice A7 l7 c7) ∧ w2.cell? ⟨w.heap.size, 8, none⟩ = some (.int .i64 a8) ∧ w2.cell? ⟨w.heap.size + 1, 0, none⟩ = some (.int .i64 2) ∧ w2.cell? ⟨w.heap.size + 1, 1, none⟩ = some (.int .i64 x1) ∧ Below w.heap.size w w2)) := ⟨fun w1 w2 hb h => by
    obtain ⟨k0, k1, k2, k3, k4, k5, k6, k7, k8, p0, p1, hB⟩ := h
    exact ⟨cell_below hb k0, cell_below hb k1, cell_below hb k2, cell_below hb k3, cell_below hb k4, cell_below hb k5, cell_below hb k6, cell_below hb k7, cell_below hb k8, cell_below hb p0, cell_below hb p1, hB.trans (hb.mono hB.size)⟩⟩
  have SD : Aside0 (∀ w1 : World, (w1.cell? ⟨w.heap.size, 0, none⟩ = some (.int .i64 a0) ∧ w1.cell? ⟨w.heap.size, 1, none⟩ = some (.int .i64 a1) ∧ w1.cell? ⟨w.heap.size, 2, none⟩ = some (.int .i64 a2) ∧ w1.cell? ⟨w.heap.size, 3, none⟩ = some (.int .i64 a3) ∧ w1.cell? ⟨w.heap.size, 4, none⟩ = some (.slice A4 l4 c4) ∧ w1.cell? ⟨w.heap.size, 5, none⟩ = some (.int .i64 a5) ∧ w1.cell? ⟨w.heap.size, 6, none⟩ = some (.int .i64 a6) ∧ w1.cell? ⟨w.heap.size, 7, none⟩ = some (.slice A7 l7 c7) ∧ w1.cell? ⟨w.heap.size, 8, none⟩ = some (.int .i64 a8) ∧ w1.cell? ⟨w.heap.size + 1, 0, none⟩ = some (.int .i64 2) ∧ w1.cell? ⟨w.heap.size + 1, 1, none⟩ = some (.int .i64 x1) ∧ Below w.heap.size w w1) → (w1.drew.cell? ⟨w.heap.size, 0, none⟩ = some (.int .i64 a0) ∧ w1.drew.cell? ⟨w.heap.size, 1, none⟩ = some (.int .i64 a1) ∧ w1.drew.cell? ⟨w.heap.size, 2, none⟩ = some (.int .i64 a2) ∧ w1.drew.cell? ⟨w.heap.size, 3, none⟩ = some (.int .i64 a3) ∧ w1.drew.cell? ⟨w.heap.size, 4, none⟩ = some (.slice A4 l4 c4) ∧ w1.drew.cell? ⟨w.heap.size, 5, none⟩ = some (.int .i64 a5) ∧ w1.drew.cell? ⟨w.heap.size, 6, none⟩ = some (.int .i64 a6) ∧ w1.drew.cell? ⟨w.heap.size, 7, none⟩ = some (.slice A7 l7 c7) ∧ w1.drew.cell? ⟨w.heap.size, 8, none⟩ = some (.int .i64 a8) ∧ w1.drew.cell? ⟨w.heap.size + 1, 0, none⟩ = some (.int .i64 2) ∧ w1.drew.cell? ⟨w.heap.size + 1, 1, none⟩ = some (.int .i64 x1) ∧ Below w.heap.size w w1.drew)) := ⟨fun w1 h => by
    obtain ⟨k0, k1, k2, k3, k4, k5, k6, k7, k8, p0, p1, hB⟩ := h
    exact ⟨k0, k1, k2, k3, k4, k5, k6, k7, k8, p0, p1, hB.os, hB.tape, hB.output, hB.size, hB.block⟩⟩
  have SG : Aside0 (∀ w1 : World, (w1.cell? ⟨w.heap.size, 0, none⟩ = some (.int .i64 a0) ∧ w1.cell? ⟨w.heap.size, 1, none⟩ = some (.int .i64 a1) ∧ w1.cell? ⟨w.heap.size, 2, none⟩ = some (.int .i64 a2) ∧ w1.cell? ⟨w.heap.size, 3, none⟩ = some (.int .i64 a3) ∧ w1.cell? ⟨w.heap.size, 4, none⟩ = some (.slice A4 l4 c4) ∧ w1.cell? ⟨w.heap.size, 5, none⟩ = some (.int .i64 a5) ∧ w1.cell? ⟨w.heap.size, 6, none⟩ = some (.int .i64 a6) ∧ w1.cell? ⟨w.heap.size, 7, none⟩ = some (.slice A7 l7 c7) ∧ w1.cell? ⟨w.heap.size, 8, none⟩ = some (.int .i64 a8) ∧ w1.cell? ⟨w.heap.size + 1, 0, none⟩ = some (.int .i64 2) ∧ w1.cell? ⟨w.heap.size + 1, 1, none⟩ = some (.int .i64 x1) ∧ Below w.heap.size w w1) → Below w.heap.size w w1) := ⟨fun w1 h => h.2.2.2.2.2.2.2.2.2.2.2⟩
  go_wp2_with (first
    | (go_at_call 4; (with_reducible refine (LV _).out.mono ?_); rintro e w' ⟨rfl, hb⟩; replace HB := Aside0.mk (HB.out.trans (hb.mono HB.out.size)); replace BX := Aside0.mk (BX.out.below hb); clear hb))
  have HS : w'.cell? ⟨w.heap.size, 0, none⟩ = some (.int .i64 a0) ∧ w'.cell? ⟨w.heap.size, 1, none⟩ = some (.int .i64 a1) ∧ w'.cell? ⟨w.heap.size, 2, none⟩ = some (.int .i64 a2) ∧ w'.cell? ⟨w.heap.size, 3, none⟩ = some (.int .i64 a3) ∧ w'.cell? ⟨w.heap.size, 4, none⟩ = some (.slice A4 l4 c4) ∧ w'.cell? ⟨w.heap.size, 5, none⟩ = some (.int .i64 a5) ∧ w'.cell? ⟨w.heap.size, 6, none⟩ = some (.int .i64 a6) ∧ w'.cell? ⟨w.heap.size, 7, none⟩ = some (.slice A7 l7 c7) ∧ w'.cell? ⟨w.heap.size, 8, none⟩ = some (.int .i64 a8) ∧ w'.cell? ⟨w.heap.size + 1, 0, none⟩ = some (.int .i64 2) ∧ w'.cell? ⟨w.heap.size + 1, 1, none⟩ = some (.int .i64 x1) ∧ Below w.heap.size w w' := ⟨BX.out.k0, BX.out.k1, BX.out.k2, BX.out.k3, BX.out.k4, BX.out.k5, BX.out.k6, BX.out.k7, BX.out.k8, BX.out.p0, BX.out.p1, HB.out⟩
  go_region_held3 (fun u => u.cell? ⟨w.heap.size, 0, none⟩ = some (.int .i64 a0) ∧ u.cell? ⟨w.heap.size, 1, none⟩ = some (.int .i64 a1) ∧ u.cell? ⟨w.heap.size, 2, none⟩ = some (.int .i64 a2) ∧ u.cell? ⟨w.heap.size, 3, none⟩ = some (.int .i64 a3) ∧ u.cell? ⟨w.heap.size, 4, none⟩ = some (.slice A4 l4 c4) ∧ u.cell? ⟨w.heap.size, 5, none⟩ = some (.int .i64 a5) ∧ u.cell? ⟨w.heap.size, 6, none⟩ = some (.int .i64 a6) ∧ u.cell? ⟨w.heap.size, 7, none⟩ = some (.slice A7 l7 c7) ∧ u.cell? ⟨w.heap.size, 8, none⟩ = some (.int .i64 a8) ∧ u.cell? ⟨w.heap.size + 1, 0, none⟩ = some (.int .i64 2) ∧ u.cell? ⟨w.heap.size + 1, 1, none⟩ = some (.int .i64 x1) ∧ Below w.heap.size w u) (first | exact SD.out _ (by assumption) | exact SB.out _ _ (by assumption) (by assumption))
    (first
      | (go_at_call 5; (with_reducible refine (CF _ (SG.out _ (by assumption))).out.mono ?_); rintro e w2 ⟨rfl, hb⟩)
      | (go_at_call 6; (with_reducible refine (CR _ (SG.out _ (by assumption))).out.mono ?_); rintro e w2 ⟨rfl, hb⟩))
  rename_i hS2
  obtain ⟨_, _, _, _, _, _, _, _, _, p0, p1, HB2⟩ := hS2
  clear HS HB BX SB SD SG CF CR
  have HB2 := Aside0.mk HB2
  go_wp2_with (first
    | (go_at_call 7; (with_reducible refine (CB _).out.mono ?_); rintro e w3 ⟨a, rfl, hP⟩; have hb3 := Aside0.mk (PB.out _ _ _ hP); have q0 := cell_below hb3.out p0; have q1 := cell_below hb3.out p1)
    | (go_at_call 8; (with_reducible refine (CL _ _ _ hP).out.mono ?_); rintro e w4 ⟨rfl, hQ⟩; have hb4 := Aside0.mk (QB.out _ _ _ hQ); have r0 := cell_below hb4.out p0; have r1 := cell_below hb4.out p1)
    | (go_at_call 9; (with_reducible refine (CC _ _ _ hQ).out.mono ?_); rintro e w5 ⟨rfl, hb5⟩))
  all_goals go_ret
  all_goals exact ⟨by first | rfl | (simp; done), HB2.out.trans (hb5.mono HB2.out.size)⟩
theorem law_2b (LV : ∀ W : World, Calls Tryz.prog 4 #[] W fun e w' => e = .returned (.bool true) ∧ Below W.heap.size W w')
    (P Q : World → World → Value → Prop)
    (PB : ∀ W w v, P W w v → Below W.heap.size W w) (QB : ∀ W w v, Q W w v → Below W.heap.size W w)
    (BG : ∀ W, Calls Tryz.prog 7 #[.bool true, .int .i64 0, .slice none 0 0] W fun e w' => ∃ a, e = .returned (.pointer (some a)) ∧ P W w' (.pointer (some a)))
    (x1 : Int) (hx : 31 < x1)
    (FL : ∀ W w v, P W w v → Calls Tryz.prog 8 #[v, .int .i64 x1, .int .i64 2] w fun e w' => e = .returned (.int .i64 5) ∧ Q W w' v)
    (CH : ∀ W w v, Q W w v → Calls Tryz.prog 9 #[v] w fun e w' => e = .returned (.slice none 0 0) ∧ Below W.heap.size W w')
    (a0 a1 a2 a3 a5 a6 a8 : Int) (A4 : Option Addr) (l4 c4 : Nat) (A7 : Option Addr) (l7 c7 : Nat) (A : Option Addr) (c : Nat) (m : List Int) (w : World) (hmax : m.length ≤ 9223372036854775807) (hc : m.length ≤ c) (hr : IRow w A m) :
    Calls Tryz.prog 3 #[.agg #[.int .i64 a0, .int .i64 a1, .int .i64 a2, .int .i64 a3, .slice A4 l4 c4, .int .i64 a5, .int .i64 a6, .slice A7 l7 c7, .int .i64 a8], .slice A m.length c, .agg #[.int .i64 2, .int .i64 x1]] w fun e w' => e = .returned (.bool true) ∧ Below w.heap.size w w' := by
  have LV := fun W : World => Aside0.mk (LV W)
  have CF := fun (W : World) (hb : Below w.heap.size w W) => Aside0.mk (fits_calls 2 a0 a1 a2 a3 a5 a6 a8 A4 l4 c4 A7 l7 c7 A c m W hmax hc (row_below hb hr))
  have CR := fun (W : World) (hb : Below w.heap.size w W) => Aside0.mk (ref_calls 2 a0 a1 a2 a3 a5 a6 a8 A4 l4 c4 A7 l7 c7 A c m W hmax hc (row_below hb hr))
  have CB := fun (W : World) => Aside0.mk (BG W)
  have CL := fun (V W : World) (v : Value) (h : P V W v) => Aside0.mk (FL V W v h)
  have CC := fun (V W : World) (v : Value) (h : Q V W v) => Aside0.mk (CH V W v h)
  have PB := Aside0.mk PB
  have QB := Aside0.mk QB
  have HB := Aside0.mk (below_box2 w (.cells #[.int .i64 a0, .int .i64 a1, .int .i64 a2, .int .i64 a3, .slice A4 l4 c4, .int .i64 a5, .int .i64 a6, .slice A7 l7 c7, .int .i64 a8] 25) (.cells #[.int .i64 2, .int .i64 x1] 26))
  have BX := Aside0.mk (Bx.init w 25 26 (.int .i64 a0) (.int .i64 a1) (.int .i64 a2) (.int .i64 a3) (.slice A4 l4 c4) (.int .i64 a5) (.int .i64 a6) (.slice A7 l7 c7) (.int .i64 a8) (.int .i64 2) (.int .i64 x1))
  have d0 : decide (x1 < 0) = false := decide_eq_false (by omega)
  have d1 : decide (31 < x1) = true := decide_eq_true hx
  have d2 : decide (x1 > 31) = true := decide_eq_true hx
  generalize fits a3 m 2 = t at *
  clear hr hmax hc hx
  go_enter Tryz.func3, Tryz.ntmps3
  have SB : Aside0 (∀ w1 w2 : World, Below w1.heap.size w1 w2 → (w1.cell? ⟨w.heap.size, 0, none⟩ = some (.int .i64 a0) ∧ w1.cell? ⟨w.heap.size, 1, none⟩ = some (.int .i64 a1) ∧ w1.cell? ⟨w.heap.size, 2, none⟩ = some (.int .i64 a2) ∧ w1.cell? ⟨w.heap.size, 3, none⟩ = some (.int .i64 a3) ∧ w1.cell? ⟨w.heap.size, 4, none⟩ = some (.slice A4 l4 c4) ∧ w1.cell? ⟨w.heap.size, 5, none⟩ = some (.int .i64 a5) ∧ w1.cell? ⟨w.heap.size, 6, none⟩ = some (.int .i64 a6) ∧ w1.cell? ⟨w.heap.size, 7, none⟩ = some (.slice A7 l7 c7) ∧ w1.cell? ⟨w.heap.size, 8, none⟩ = some (.int .i64 a8) ∧ w1.cell? ⟨w.heap.size + 1, 0, none⟩ = some (.int .i64 2) ∧ w1.cell? ⟨w.heap.size + 1, 1, none⟩ = some (.int .i64 x1) ∧ Below w.heap.size w w1) → (w2.cell? ⟨w.heap.size, 0, none⟩ = some (.int .i64 a0) ∧ w2.cell? ⟨w.heap.size, 1, none⟩ = some (.int .i64 a1) ∧ w2.cell? ⟨w.heap.size, 2, none⟩ = some (.int .i64 a2) ∧ w2.cell? ⟨w.heap.size, 3, none⟩ = some (.int .i64 a3) ∧ w2.cell? ⟨w.heap.size, 4, none⟩ = some (.slice A4 l4 c4) ∧ w2.cell? ⟨w.heap.size, 5, none⟩ = some (.int .i64 a5) ∧ w2.cell? ⟨w.heap.size, 6, none⟩ = some (.int .i64 a6) ∧ w2.cell? ⟨w.heap.size, 7, none⟩ = some (.slice A7 l7 c7) ∧ w2.cell? ⟨w.heap.size, 8, none⟩ = some (.int .i64 a8) ∧ w2.cell? ⟨w.heap.size + 1, 0, none⟩ = some (.int .i64 2) ∧ w2.cell? ⟨w.heap.size + 1, 1, none⟩ = some (.int .i64 x1) ∧ Below w.heap.size w w2)) := ⟨fun w1 w2 hb h => by
    obtain ⟨k0, k1, k2, k3, k4, k5, k6, k7, k8, p0, p1, hB⟩ := h
    exact ⟨cell_below hb k0, cell_below hb k1, cell_below hb k2, cell_below hb k3, cell_below hb k4, cell_below hb k5, cell_below hb k6, cell_below hb k7, cell_below hb k8, cell_below hb p0, cell_below hb p1, hB.trans (hb.mono hB.size)⟩⟩
  have SD : Aside0 (∀ w1 : World, (w1.cell? ⟨w.heap.size, 0, none⟩ = some (.int .i64 a0) ∧ w1.cell? ⟨w.heap.size, 1, none⟩ = some (.int .i64 a1) ∧ w1.cell? ⟨w.heap.size, 2, none⟩ = some (.int .i64 a2) ∧ w1.cell? ⟨w.heap.size, 3, none⟩ = some (.int .i64 a3) ∧ w1.cell? ⟨w.heap.size, 4, none⟩ = some (.slice A4 l4 c4) ∧ w1.cell? ⟨w.heap.size, 5, none⟩ = some (.int .i64 a5) ∧ w1.cell? ⟨w.heap.size, 6, none⟩ = some (.int .i64 a6) ∧ w1.cell? ⟨w.heap.size, 7, none⟩ = some (.slice A7 l7 c7) ∧ w1.cell? ⟨w.heap.size, 8, none⟩ = some (.int .i64 a8) ∧ w1.cell? ⟨w.heap.size + 1, 0, none⟩ = some (.int .i64 2) ∧ w1.cell? ⟨w.heap.size + 1, 1, none⟩ = some (.int .i64 x1) ∧ Below w.heap.size w w1) → (w1.drew.cell? ⟨w.heap.size, 0, none⟩ = some (.int .i64 a0) ∧ w1.drew.cell? ⟨w.heap.size, 1, none⟩ = some (.int .i64 a1) ∧ w1.drew.cell? ⟨w.heap.size, 2, none⟩ = some (.int .i64 a2) ∧ w1.drew.cell? ⟨w.heap.size, 3, none⟩ = some (.int .i64 a3) ∧ w1.drew.cell? ⟨w.heap.size, 4, none⟩ = some (.slice A4 l4 c4) ∧ w1.drew.cell? ⟨w.heap.size, 5, none⟩ = some (.int .i64 a5) ∧ w1.drew.cell? ⟨w.heap.size, 6, none⟩ = some (.int .i64 a6) ∧ w1.drew.cell? ⟨w.heap.size, 7, none⟩ = some (.slice A7 l7 c7) ∧ w1.drew.cell? ⟨w.heap.size, 8, none⟩ = some (.int .i64 a8) ∧ w1.drew.cell? ⟨w.heap.size + 1, 0, none⟩ = some (.int .i64 2) ∧ w1.drew.cell? ⟨w.heap.size + 1, 1, none⟩ = some (.int .i64 x1) ∧ Below w.heap.size w w1.drew)) := ⟨fun w1 h => by
    obtain ⟨k0, k1, k2, k3, k4, k5, k6, k7, k8, p0, p1, hB⟩ := h
    exact ⟨k0, k1, k2, k3, k4, k5, k6, k7, k8, p0, p1, hB.os, hB.tape, hB.output, hB.size, hB.block⟩⟩
  have SG : Aside0 (∀ w1 : World, (w1.cell? ⟨w.heap.size, 0, none⟩ = some (.int .i64 a0) ∧ w1.cell? ⟨w.heap.size, 1, none⟩ = some (.int .i64 a1) ∧ w1.cell? ⟨w.heap.size, 2, none⟩ = some (.int .i64 a2) ∧ w1.cell? ⟨w.heap.size, 3, none⟩ = some (.int .i64 a3) ∧ w1.cell? ⟨w.heap.size, 4, none⟩ = some (.slice A4 l4 c4) ∧ w1.cell? ⟨w.heap.size, 5, none⟩ = some (.int .i64 a5) ∧ w1.cell? ⟨w.heap.size, 6, none⟩ = some (.int .i64 a6) ∧ w1.cell? ⟨w.heap.size, 7, none⟩ = some (.slice A7 l7 c7) ∧ w1.cell? ⟨w.heap.size, 8, none⟩ = some (.int .i64 a8) ∧ w1.cell? ⟨w.heap.size + 1, 0, none⟩ = some (.int .i64 2) ∧ w1.cell? ⟨w.heap.size + 1, 1, none⟩ = some (.int .i64 x1) ∧ Below w.heap.size w w1) → Below w.heap.size w w1) := ⟨fun w1 h => h.2.2.2.2.2.2.2.2.2.2.2⟩
  go_wp2_with (first
    | (go_at_call 4; (with_reducible refine (LV _).out.mono ?_); rintro e w' ⟨rfl, hb⟩; replace HB := Aside0.mk (HB.out.trans (hb.mono HB.out.size)); replace BX := Aside0.mk (BX.out.below hb); clear hb))
  have HS : w'.cell? ⟨w.heap.size, 0, none⟩ = some (.int .i64 a0) ∧ w'.cell? ⟨w.heap.size, 1, none⟩ = some (.int .i64 a1) ∧ w'.cell? ⟨w.heap.size, 2, none⟩ = some (.int .i64 a2) ∧ w'.cell? ⟨w.heap.size, 3, none⟩ = some (.int .i64 a3) ∧ w'.cell? ⟨w.heap.size, 4, none⟩ = some (.slice A4 l4 c4) ∧ w'.cell? ⟨w.heap.size, 5, none⟩ = some (.int .i64 a5) ∧ w'.cell? ⟨w.heap.size, 6, none⟩ = some (.int .i64 a6) ∧ w'.cell? ⟨w.heap.size, 7, none⟩ = some (.slice A7 l7 c7) ∧ w'.cell? ⟨w.heap.size, 8, none⟩ = some (.int .i64 a8) ∧ w'.cell? ⟨w.heap.size + 1, 0, none⟩ = some (.int .i64 2) ∧ w'.cell? ⟨w.heap.size + 1, 1, none⟩ = some (.int .i64 x1) ∧ Below w.heap.size w w' := ⟨BX.out.k0, BX.out.k1, BX.out.k2, BX.out.k3, BX.out.k4, BX.out.k5, BX.out.k6, BX.out.k7, BX.out.k8, BX.out.p0, BX.out.p1, HB.out⟩
  go_region_held3 (fun u => u.cell? ⟨w.heap.size, 0, none⟩ = some (.int .i64 a0) ∧ u.cell? ⟨w.heap.size, 1, none⟩ = some (.int .i64 a1) ∧ u.cell? ⟨w.heap.size, 2, none⟩ = some (.int .i64 a2) ∧ u.cell? ⟨w.heap.size, 3, none⟩ = some (.int .i64 a3) ∧ u.cell? ⟨w.heap.size, 4, none⟩ = some (.slice A4 l4 c4) ∧ u.cell? ⟨w.heap.size, 5, none⟩ = some (.int .i64 a5) ∧ u.cell? ⟨w.heap.size, 6, none⟩ = some (.int .i64 a6) ∧ u.cell? ⟨w.heap.size, 7, none⟩ = some (.slice A7 l7 c7) ∧ u.cell? ⟨w.heap.size, 8, none⟩ = some (.int .i64 a8) ∧ u.cell? ⟨w.heap.size + 1, 0, none⟩ = some (.int .i64 2) ∧ u.cell? ⟨w.heap.size + 1, 1, none⟩ = some (.int .i64 x1) ∧ Below w.heap.size w u) (first | exact SD.out _ (by assumption) | exact SB.out _ _ (by assumption) (by assumption))
    (first
      | (go_at_call 5; (with_reducible refine (CF _ (SG.out _ (by assumption))).out.mono ?_); rintro e w2 ⟨rfl, hb⟩)
      | (go_at_call 6; (with_reducible refine (CR _ (SG.out _ (by assumption))).out.mono ?_); rintro e w2 ⟨rfl, hb⟩))
  rename_i hS2
  obtain ⟨_, _, _, _, _, _, _, _, _, p0, p1, HB2⟩ := hS2
  clear HS HB BX SB SD SG CF CR
  have HB2 := Aside0.mk HB2
  go_wp2_with (first
    | (go_at_call 7; (with_reducible refine (CB _).out.mono ?_); rintro e w3 ⟨a, rfl, hP⟩; have hb3 := Aside0.mk (PB.out _ _ _ hP); have q0 := cell_below hb3.out p0; have q1 := cell_below hb3.out p1)
    | (go_at_call 8; (with_reducible refine (CL _ _ _ hP).out.mono ?_); rintro e w4 ⟨rfl, hQ⟩; have hb4 := Aside0.mk (QB.out _ _ _ hQ); have r0 := cell_below hb4.out p0; have r1 := cell_below hb4.out p1)
    | (go_at_call 9; (with_reducible refine (CC _ _ _ hQ).out.mono ?_); rintro e w5 ⟨rfl, hb5⟩))
  all_goals go_ret
  all_goals exact ⟨by first | rfl | (simp; done), HB2.out.trans (hb5.mono HB2.out.size)⟩
theorem law_2c (LV : ∀ W : World, Calls Tryz.prog 4 #[] W fun e w' => e = .returned (.bool true) ∧ Below W.heap.size W w')
    (P Q : World → World → Value → Prop)
    (PB : ∀ W w v, P W w v → Below W.heap.size W w) (QB : ∀ W w v, Q W w v → Below W.heap.size W w)
    (BG : ∀ W, Calls Tryz.prog 7 #[.bool true, .int .i64 0, .slice none 0 0] W fun e w' => ∃ a, e = .returned (.pointer (some a)) ∧ P W w' (.pointer (some a)))
    (x1 : Int) (hx : 0 ≤ x1) (hy : x1 ≤ 31)
    (FL : ∀ W w v, P W w v → Calls Tryz.prog 8 #[v, .int .i64 x1, .int .i64 2] w fun e w' => e = .returned (.int .i64 0) ∧ Q W w' v)
    (a0 a1 a2 a3 a5 a6 a8 : Int) (A4 : Option Addr) (l4 c4 : Nat) (A7 : Option Addr) (l7 c7 : Nat) (A : Option Addr) (c : Nat) (m : List Int) (w : World) (hmax : m.length ≤ 9223372036854775807) (hc : m.length ≤ c) (hr : IRow w A m) :
    Calls Tryz.prog 3 #[.agg #[.int .i64 a0, .int .i64 a1, .int .i64 a2, .int .i64 a3, .slice A4 l4 c4, .int .i64 a5, .int .i64 a6, .slice A7 l7 c7, .int .i64 a8], .slice A m.length c, .agg #[.int .i64 2, .int .i64 x1]] w fun e w' => e = .returned (.bool true) ∧ Below w.heap.size w w' := by
  have LV := fun W : World => Aside0.mk (LV W)
  have CF := fun (W : World) (hb : Below w.heap.size w W) => Aside0.mk (fits_calls 2 a0 a1 a2 a3 a5 a6 a8 A4 l4 c4 A7 l7 c7 A c m W hmax hc (row_below hb hr))
  have CR := fun (W : World) (hb : Below w.heap.size w W) => Aside0.mk (ref_calls 2 a0 a1 a2 a3 a5 a6 a8 A4 l4 c4 A7 l7 c7 A c m W hmax hc (row_below hb hr))
  have CB := fun (W : World) => Aside0.mk (BG W)
  have CL := fun (V W : World) (v : Value) (h : P V W v) => Aside0.mk (FL V W v h)
  have PB := Aside0.mk PB
  have QB := Aside0.mk QB
  have HB := Aside0.mk (below_box2 w (.cells #[.int .i64 a0, .int .i64 a1, .int .i64 a2, .int .i64 a3, .slice A4 l4 c4, .int .i64 a5, .int .i64 a6, .slice A7 l7 c7, .int .i64 a8] 25) (.cells #[.int .i64 2, .int .i64 x1] 26))
  have BX := Aside0.mk (Bx.init w 25 26 (.int .i64 a0) (.int .i64 a1) (.int .i64 a2) (.int .i64 a3) (.slice A4 l4 c4) (.int .i64 a5) (.int .i64 a6) (.slice A7 l7 c7) (.int .i64 a8) (.int .i64 2) (.int .i64 x1))
  have d0 : decide (x1 < 0) = false := decide_eq_false (by omega)
  have d1 : decide (31 < x1) = false := decide_eq_false (by omega)
  have d2 : decide (x1 > 31) = false := decide_eq_false (by omega)
  generalize fits a3 m 2 = t at *
  clear hr hmax hc hx hy
  go_enter Tryz.func3, Tryz.ntmps3
  have SB : Aside0 (∀ w1 w2 : World, Below w1.heap.size w1 w2 → (w1.cell? ⟨w.heap.size, 0, none⟩ = some (.int .i64 a0) ∧ w1.cell? ⟨w.heap.size, 1, none⟩ = some (.int .i64 a1) ∧ w1.cell? ⟨w.heap.size, 2, none⟩ = some (.int .i64 a2) ∧ w1.cell? ⟨w.heap.size, 3, none⟩ = some (.int .i64 a3) ∧ w1.cell? ⟨w.heap.size, 4, none⟩ = some (.slice A4 l4 c4) ∧ w1.cell? ⟨w.heap.size, 5, none⟩ = some (.int .i64 a5) ∧ w1.cell? ⟨w.heap.size, 6, none⟩ = some (.int .i64 a6) ∧ w1.cell? ⟨w.heap.size, 7, none⟩ = some (.slice A7 l7 c7) ∧ w1.cell? ⟨w.heap.size, 8, none⟩ = some (.int .i64 a8) ∧ w1.cell? ⟨w.heap.size + 1, 0, none⟩ = some (.int .i64 2) ∧ w1.cell? ⟨w.heap.size + 1, 1, none⟩ = some (.int .i64 x1) ∧ Below w.heap.size w w1) → (w2.cell? ⟨w.heap.size, 0, none⟩ = some (.int .i64 a0) ∧ w2.cell? ⟨w.heap.size, 1, none⟩ = some (.int .i64 a1) ∧ w2.cell? ⟨w.heap.size, 2, none⟩ = some (.int .i64 a2) ∧ w2.cell? ⟨w.heap.size, 3, none⟩ = some (.int .i64 a3) ∧ w2.cell? ⟨w.heap.size, 4, none⟩ = some (.slice A4 l4 c4) ∧ w2.cell? ⟨w.heap.size, 5, none⟩ = some (.int .i64 a5) ∧ w2.cell? ⟨w.heap.size, 6, none⟩ = some (.int .i64 a6) ∧ w2.cell? ⟨w.heap.size, 7, none⟩ = some (.slice A7 l7 c7) ∧ w2.cell? ⟨w.heap.size, 8, none⟩ = some (.int .i64 a8) ∧ w2.cell? ⟨w.heap.size + 1, 0, none⟩ = some (.int .i64 2) ∧ w2.cell? ⟨w.heap.size + 1, 1, none⟩ = some (.int .i64 x1) ∧ Below w.heap.size w w2)) := ⟨fun w1 w2 hb h => by
    obtain ⟨k0, k1, k2, k3, k4, k5, k6, k7, k8, p0, p1, hB⟩ := h
    exact ⟨cell_below hb k0, cell_below hb k1, cell_below hb k2, cell_below hb k3, cell_below hb k4, cell_below hb k5, cell_below hb k6, cell_below hb k7, cell_below hb k8, cell_below hb p0, cell_below hb p1, hB.trans (hb.mono hB.size)⟩⟩
  have SD : Aside0 (∀ w1 : World, (w1.cell? ⟨w.heap.size, 0, none⟩ = some (.int .i64 a0) ∧ w1.cell? ⟨w.heap.size, 1, none⟩ = some (.int .i64 a1) ∧ w1.cell? ⟨w.heap.size, 2, none⟩ = some (.int .i64 a2) ∧ w1.cell? ⟨w.heap.size, 3, none⟩ = some (.int .i64 a3) ∧ w1.cell? ⟨w.heap.size, 4, none⟩ = some (.slice A4 l4 c4) ∧ w1.cell? ⟨w.heap.size, 5, none⟩ = some (.int .i64 a5) ∧ w1.cell? ⟨w.heap.size, 6, none⟩ = some (.int .i64 a6) ∧ w1.cell? ⟨w.heap.size, 7, none⟩ = some (.slice A7 l7 c7) ∧ w1.cell? ⟨w.heap.size, 8, none⟩ = some (.int .i64 a8) ∧ w1.cell? ⟨w.heap.size + 1, 0, none⟩ = some (.int .i64 2) ∧ w1.cell? ⟨w.heap.size + 1, 1, none⟩ = some (.int .i64 x1) ∧ Below w.heap.size w w1) → (w1.drew.cell? ⟨w.heap.size, 0, none⟩ = some (.int .i64 a0) ∧ w1.drew.cell? ⟨w.heap.size, 1, none⟩ = some (.int .i64 a1) ∧ w1.drew.cell? ⟨w.heap.size, 2, none⟩ = some (.int .i64 a2) ∧ w1.drew.cell? ⟨w.heap.size, 3, none⟩ = some (.int .i64 a3) ∧ w1.drew.cell? ⟨w.heap.size, 4, none⟩ = some (.slice A4 l4 c4) ∧ w1.drew.cell? ⟨w.heap.size, 5, none⟩ = some (.int .i64 a5) ∧ w1.drew.cell? ⟨w.heap.size, 6, none⟩ = some (.int .i64 a6) ∧ w1.drew.cell? ⟨w.heap.size, 7, none⟩ = some (.slice A7 l7 c7) ∧ w1.drew.cell? ⟨w.heap.size, 8, none⟩ = some (.int .i64 a8) ∧ w1.drew.cell? ⟨w.heap.size + 1, 0, none⟩ = some (.int .i64 2) ∧ w1.drew.cell? ⟨w.heap.size + 1, 1, none⟩ = some (.int .i64 x1) ∧ Below w.heap.size w w1.drew)) := ⟨fun w1 h => by
    obtain ⟨k0, k1, k2, k3, k4, k5, k6, k7, k8, p0, p1, hB⟩ := h
    exact ⟨k0, k1, k2, k3, k4, k5, k6, k7, k8, p0, p1, hB.os, hB.tape, hB.output, hB.size, hB.block⟩⟩
  have SG : Aside0 (∀ w1 : World, (w1.cell? ⟨w.heap.size, 0, none⟩ = some (.int .i64 a0) ∧ w1.cell? ⟨w.heap.size, 1, none⟩ = some (.int .i64 a1) ∧ w1.cell? ⟨w.heap.size, 2, none⟩ = some (.int .i64 a2) ∧ w1.cell? ⟨w.heap.size, 3, none⟩ = some (.int .i64 a3) ∧ w1.cell? ⟨w.heap.size, 4, none⟩ = some (.slice A4 l4 c4) ∧ w1.cell? ⟨w.heap.size, 5, none⟩ = some (.int .i64 a5) ∧ w1.cell? ⟨w.heap.size, 6, none⟩ = some (.int .i64 a6) ∧ w1.cell? ⟨w.heap.size, 7, none⟩ = some (.slice A7 l7 c7) ∧ w1.cell? ⟨w.heap.size, 8, none⟩ = some (.int .i64 a8) ∧ w1.cell? ⟨w.heap.size + 1, 0, none⟩ = some (.int .i64 2) ∧ w1.cell? ⟨w.heap.size + 1, 1, none⟩ = some (.int .i64 x1) ∧ Below w.heap.size w w1) → Below w.heap.size w w1) := ⟨fun w1 h => h.2.2.2.2.2.2.2.2.2.2.2⟩
  go_wp2_with (first
    | (go_at_call 4; (with_reducible refine (LV _).out.mono ?_); rintro e w' ⟨rfl, hb⟩; replace HB := Aside0.mk (HB.out.trans (hb.mono HB.out.size)); replace BX := Aside0.mk (BX.out.below hb); clear hb))
  have HS : w'.cell? ⟨w.heap.size, 0, none⟩ = some (.int .i64 a0) ∧ w'.cell? ⟨w.heap.size, 1, none⟩ = some (.int .i64 a1) ∧ w'.cell? ⟨w.heap.size, 2, none⟩ = some (.int .i64 a2) ∧ w'.cell? ⟨w.heap.size, 3, none⟩ = some (.int .i64 a3) ∧ w'.cell? ⟨w.heap.size, 4, none⟩ = some (.slice A4 l4 c4) ∧ w'.cell? ⟨w.heap.size, 5, none⟩ = some (.int .i64 a5) ∧ w'.cell? ⟨w.heap.size, 6, none⟩ = some (.int .i64 a6) ∧ w'.cell? ⟨w.heap.size, 7, none⟩ = some (.slice A7 l7 c7) ∧ w'.cell? ⟨w.heap.size, 8, none⟩ = some (.int .i64 a8) ∧ w'.cell? ⟨w.heap.size + 1, 0, none⟩ = some (.int .i64 2) ∧ w'.cell? ⟨w.heap.size + 1, 1, none⟩ = some (.int .i64 x1) ∧ Below w.heap.size w w' := ⟨BX.out.k0, BX.out.k1, BX.out.k2, BX.out.k3, BX.out.k4, BX.out.k5, BX.out.k6, BX.out.k7, BX.out.k8, BX.out.p0, BX.out.p1, HB.out⟩
  go_region_held3 (fun u => u.cell? ⟨w.heap.size, 0, none⟩ = some (.int .i64 a0) ∧ u.cell? ⟨w.heap.size, 1, none⟩ = some (.int .i64 a1) ∧ u.cell? ⟨w.heap.size, 2, none⟩ = some (.int .i64 a2) ∧ u.cell? ⟨w.heap.size, 3, none⟩ = some (.int .i64 a3) ∧ u.cell? ⟨w.heap.size, 4, none⟩ = some (.slice A4 l4 c4) ∧ u.cell? ⟨w.heap.size, 5, none⟩ = some (.int .i64 a5) ∧ u.cell? ⟨w.heap.size, 6, none⟩ = some (.int .i64 a6) ∧ u.cell? ⟨w.heap.size, 7, none⟩ = some (.slice A7 l7 c7) ∧ u.cell? ⟨w.heap.size, 8, none⟩ = some (.int .i64 a8) ∧ u.cell? ⟨w.heap.size + 1, 0, none⟩ = some (.int .i64 2) ∧ u.cell? ⟨w.heap.size + 1, 1, none⟩ = some (.int .i64 x1) ∧ Below w.heap.size w u) (first | exact SD.out _ (by assumption) | exact SB.out _ _ (by assumption) (by assumption))
    (first
      | (go_at_call 5; (with_reducible refine (CF _ (SG.out _ (by assumption))).out.mono ?_); rintro e w2 ⟨rfl, hb⟩)
      | (go_at_call 6; (with_reducible refine (CR _ (SG.out _ (by assumption))).out.mono ?_); rintro e w2 ⟨rfl, hb⟩))
  rename_i hS2
  obtain ⟨_, _, _, _, _, _, _, _, _, p0, p1, HB2⟩ := hS2
  clear HS HB BX SB SD SG CF CR
  have HB2 := Aside0.mk HB2
  go_wp2_with (first
    | (go_at_call 7; (with_reducible refine (CB _).out.mono ?_); rintro e w3 ⟨a, rfl, hP⟩; have hb3 := Aside0.mk (PB.out _ _ _ hP); have q0 := cell_below hb3.out p0; have q1 := cell_below hb3.out p1)
    | (go_at_call 8; (with_reducible refine (CL _ _ _ hP).out.mono ?_); rintro e w4 ⟨rfl, hQ⟩; have hb4 := Aside0.mk (QB.out _ _ _ hQ); have r0 := cell_below hb4.out p0; have r1 := cell_below hb4.out p1))
  all_goals go_ret
  all_goals exact ⟨by first | rfl | (simp; done), HB2.out.trans (hb4.out.mono HB2.out.size)⟩
end Go.Proofs.YtgljlgchfahjdaaGreatDoor.Fits
