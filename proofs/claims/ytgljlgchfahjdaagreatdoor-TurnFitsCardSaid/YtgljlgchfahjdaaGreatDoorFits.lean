/- What turn.Fits, and the reference's, do at any card, any row of numbers, any format: both say the same. Conditions: as the theorems state them. -/
import Derived.Test.YtgljlgchfahjdaaGreatDoorProg
import Derived.Below
import Derived.OwnWalk
import Derived.Tactics
import Derived.WalkKit
import Derived.KernelRfl
import Derived.BigQuiet
import Derived.Deep.QuietTactic
import Derived.Deep.LoopGhost
import Derived.WideLaws
import Derived.BigFrame
import Derived.WalkMore
namespace Go.Proofs.YtgljlgchfahjdaaGreatDoor.Fits
open Go Go.RowKit
structure Aside0 (p : Prop) : Prop where
  mk :: out : p
set_option maxRecDepth 100000
set_option maxHeartbeats 8000000
def most (f : Int) : Int := if f = 1 then 76 else if f = 2 then 120 else 0
theorem of_none (f : Int) (h1 : f ≠ 1) (h2 : f ≠ 2) (w : World) : Calls Tryz.prog 27 #[.int .i64 f] w fun e w' => e = .returned (.pointer none) ∧ Below w.heap.size w w' := by
  have HB := Aside0.mk (Below.refl w.heap.size w)
  have b1 : (f == 1) = false := beq_eq_false_iff_ne.2 h1
  have b2 : (f == 2) = false := beq_eq_false_iff_ne.2 h2
  clear h1 h2
  go_enter Tryz.func27, Tryz.ntmps27
  go_wp2
  go_ret
  exact ⟨rfl, HB.out⟩
theorem of_one (w : World) : Calls Tryz.prog 27 #[.int .i64 1] w fun e w' => (∃ a : Addr, e = .returned (.pointer (some a)) ∧ w'.cell? a = some (.int .i64 76)) ∧ Below w.heap.size w w' := by
  have HB := Aside0.mk (Below.refl w.heap.size w)
  go_enter Tryz.func27, Tryz.ntmps27
  go_wp2
  go_ret
  exact ⟨⟨_, rfl, by unfold World.cell?; simp only [heap_alloc_new]; rfl⟩, HB.out.alloc (Nat.le_refl _) _⟩
theorem of_two (w : World) : Calls Tryz.prog 27 #[.int .i64 2] w fun e w' => (∃ a : Addr, e = .returned (.pointer (some a)) ∧ w'.cell? a = some (.int .i64 120)) ∧ Below w.heap.size w w' := by
  have HB := Aside0.mk (Below.refl w.heap.size w)
  go_enter Tryz.func27, Tryz.ntmps27
  go_wp2
  go_ret
  exact ⟨⟨_, rfl, by unfold World.cell?; simp only [heap_alloc_new]; rfl⟩, HB.out.alloc (Nat.le_refl _) _⟩
theorem most_one (w : World) : Calls Tryz.prog 11 #[.int .i64 1] w fun e w' => e = .returned (.int .i64 76) ∧ Below w.heap.size w w' := by
  have C := Aside0.mk (of_one w)
  go_enter Tryz.func11, Tryz.ntmps11
  go_wp2_with (go_at_call 27; (with_reducible refine C.out.mono ?_); rintro e w' ⟨⟨a, rfl, hx⟩, hb⟩)
  go_ret
  exact ⟨rfl, hb⟩
theorem most_two (w : World) : Calls Tryz.prog 11 #[.int .i64 2] w fun e w' => e = .returned (.int .i64 120) ∧ Below w.heap.size w w' := by
  have C := Aside0.mk (of_two w)
  go_enter Tryz.func11, Tryz.ntmps11
  go_wp2_with (go_at_call 27; (with_reducible refine C.out.mono ?_); rintro e w' ⟨⟨a, rfl, hx⟩, hb⟩)
  go_ret
  exact ⟨rfl, hb⟩
theorem most_none (f : Int) (h1 : f ≠ 1) (h2 : f ≠ 2) (w : World) : Calls Tryz.prog 11 #[.int .i64 f] w fun e w' => e = .returned (.int .i64 0) ∧ Below w.heap.size w w' := by
  have C := Aside0.mk (of_none f h1 h2 w)
  clear h1 h2
  go_enter Tryz.func11, Tryz.ntmps11
  go_wp2_with (go_at_call 27; (with_reducible refine C.out.mono ?_); rintro e w' ⟨rfl, hb⟩)
  go_ret
  exact ⟨rfl, hb⟩
theorem most_calls (f : Int) (w : World) : Calls Tryz.prog 11 #[.int .i64 f] w fun e w' => e = .returned (.int .i64 (most f)) ∧ Below w.heap.size w w' := by
  by_cases h1 : f = 1
  · subst h1; exact most_one w
  · by_cases h2 : f = 2
    · subst h2; exact most_two w
    · have : most f = 0 := by simp [most, h1, h2]
      rw [this]; exact most_none f h1 h2 w
theorem refMost_calls (f : Int) (w : World) : Calls Tryz.prog 14 #[.int .i64 f] w fun e w' => e = .returned (.int .i64 (most f)) ∧ Below w.heap.size w w' := by
  have HB := Aside0.mk (Below.refl w.heap.size w)
  by_cases h1 : f = 1
  · subst h1
    go_enter Tryz.func14, Tryz.ntmps14
    go_wp2
    go_ret
    exact ⟨rfl, HB.out⟩
  · by_cases h2 : f = 2
    · subst h2
      go_enter Tryz.func14, Tryz.ntmps14
      go_wp2
      go_ret
      exact ⟨rfl, HB.out⟩
    · have e0 : most f = 0 := by simp [most, h1, h2]
      rw [e0]
      have b1 : (f == 1) = false := beq_eq_false_iff_ne.2 h1
      have b2 : (f == 2) = false := beq_eq_false_iff_ne.2 h2
      clear h1 h2 e0
      go_enter Tryz.func14, Tryz.ntmps14
      go_wp2
      go_ret
      exact ⟨rfl, HB.out⟩
theorem cell_below {w wx : World} (hb : Below w.heap.size w wx) {a : Addr} {v : Value} (h : w.cell? a = some v) : wx.cell? a = some v := by
  have hl : a.block < w.heap.size := by
    unfold World.cell? at h
    cases hh : w.heap[a.block]? with
    | none => rw [hh] at h; cases h
    | some o => exact (Array.getElem?_eq_some_iff.1 hh).1
  unfold World.cell? at h ⊢
  rw [hb.block a.block hl]
  exact h
/-- numbers in a row of cells -/
def IRow (w : World) (A : Option Addr) (l : List Int) : Prop := ∀ (j : Nat) (x : Int), l[j]? = some x → ∃ b o : Nat, A = some ⟨b, o, none⟩ ∧ w.cell? ⟨b, o + j, none⟩ = some (.int .i64 x)
theorem row_below {w wx : World} (hb : Below w.heap.size w wx) {A : Option Addr} {l : List Int} (h : IRow w A l) : IRow wx A l := by
  intro j x hj
  obtain ⟨b, o, e, h2⟩ := h j x hj
  exact ⟨b, o, e, cell_below hb h2⟩
theorem row_drop {w : World} {b o : Nat} {l : List Int} (h : IRow w (some ⟨b, o, none⟩) l) (n : Nat) : IRow w (some ⟨b, o + n, none⟩) (l.drop n) := by
  intro j x hj
  rw [List.getElem?_drop] at hj
  obtain ⟨b', o', e, hc⟩ := h _ x hj
  cases e
  exact ⟨b, o + n, rfl, by rw [← hc, Nat.add_assoc]⟩
theorem not0_calls (x : Int) (w : World) : Calls Tryz.prog 13 #[.int .i64 x] w fun e w' => e = .returned (.bool (x != 0)) ∧ Below w.heap.size w w' := by
  have HB := Aside0.mk (Below.refl w.heap.size w)
  go_enter Tryz.func13, Tryz.ntmps13
  go_wp2
  go_ret
  exact ⟨rfl, HB.out⟩
theorem index_calls (A : Option Addr) (c0 : Nat) (l0 : List Int) (w : World) (hmax : l0.length ≤ 9223372036854775807) (hr : IRow w A l0) :
    Calls Tryz.prog 28 #[.slice A l0.length c0, .func (.func 13) #[] #[]] w fun e w' => (∃ i : Int, e = .returned (.int .i64 i) ∧ decide (0 ≤ i) = l0.any fun x => x != 0) ∧ Below w.heap.size w w' := by
  have HR := Aside0.mk hr
  clear hr
  go_enter Tryz.func28, Tryz.ntmps28
  go_wp2
  go_loopg [8] l0.length (fun kq v8 wx => ∃ i : Nat, v8 = .int .i64 (i : Int) ∧ i ≤ l0.length ∧ l0.length ≤ i + kq ∧ Aside0 (((l0.drop i).any fun x => x != 0) = l0.any fun x => x != 0) ∧ Aside0 (Below w.heap.size w wx))
  case atStart => exact ⟨0, rfl, Nat.zero_le _, by omega, ⟨rfl⟩, ⟨Below.refl _ w⟩⟩
  case round =>
    obtain ⟨i, rfl, hi, hfu, HA, HB⟩ := hrel
    by_cases hlt : i < l0.length
    · obtain ⟨k1, rfl⟩ : ∃ k1, gk = k1 + 1 := ⟨gk - 1, by omega⟩
      have hd : l0.drop i = l0[i] :: l0.drop (i + 1) := List.drop_eq_getElem_cons hlt
      have hh := HA.out
      rw [hd, List.any_cons] at hh
      clear HA hd
      have hltI : decide ((i : Int) < (l0.length : Int)) = true := decide_eq_true (by omega)
      have p1 : 0 ≤ (i : Int) := by omega
      have q1 : (i : Int) < (l0.length : Int) := by omega
      obtain ⟨b, o, rfl, hx⟩ := row_below HB.out HR.out i _ (List.getElem?_eq_getElem hlt)
      generalize l0[i] = X at *
      have hwr : wrap64 ((i : Int) + 1) = ((i + 1 : Nat) : Int) := by
        simp only [wrap64]
        omega
      have C := Aside0.mk (not0_calls X wr)
      have HH := Aside0.mk hh
      clear hh
      replace p1 := eq_true p1
      replace q1 := eq_true q1
      generalize (X != 0) = t at *
      cases t with
      | true =>
        go_wp2_with (go_at_call 13; (with_reducible refine C.out.mono ?_); rintro e w' ⟨rfl, hb⟩)
        go_ret
        exact ⟨⟨(i : Int), rfl, by rw [← HH.out]; simp⟩, HB.out.trans (hb.mono HB.out.size)⟩
      | false =>
        go_wp2_with (go_at_call 13; (with_reducible refine C.out.mono ?_); rintro e w' ⟨rfl, hb⟩)
        go_roundg k1
        case measure => omega
        case rel => exact ⟨i + 1, by first | rfl | (rw [hwr]; done), by omega, by omega, ⟨by simpa using HH.out⟩, ⟨HB.out.trans (hb.mono HB.out.size)⟩⟩
    · have hltI : decide ((i : Int) < (l0.length : Int)) = false := decide_eq_false (by omega)
      have hh := HA.out
      rw [List.drop_eq_nil_of_le (by omega)] at hh
      go_wp2
      go_ret
      exact ⟨⟨-1, rfl, by rw [← hh]; rfl⟩, HB.out⟩
theorem contains_calls (A : Option Addr) (c0 : Nat) (l0 : List Int) (w : World) (hmax : l0.length ≤ 9223372036854775807) (hr : IRow w A l0) :
    Calls Tryz.prog 12 #[.slice A l0.length c0, .func (.func 13) #[] #[]] w fun e w' => e = .returned (.bool (l0.any fun x => x != 0)) ∧ Below w.heap.size w w' := by
  have C := Aside0.mk (index_calls A c0 l0 w hmax hr)
  clear hmax hr
  generalize (l0.any fun x => x != 0) = t at *
  generalize l0.length = n at *
  go_enter Tryz.func12, Tryz.ntmps12
  go_wp2_with (go_at_call 28; (with_reducible refine C.out.mono ?_); rintro e w' ⟨⟨i, rfl, hi⟩, hb⟩)
  go_ret
  subst hi
  exact ⟨rfl, hb⟩
def fits (size : Int) (m : List Int) (f : Int) : Bool := decide (most f ≠ 0) && decide (size ≤ 128 * most f) && !((m.drop (most f).toNat).any fun x => x != 0)
theorem box3 (w : World) (t : TypeId) (a0 a1 a2 a3 : Int) (v4 v5 v6 v7 v8 : Value) : (w.alloc (.cells #[.int .i64 a0, .int .i64 a1, .int .i64 a2, .int .i64 a3, v4, v5, v6, v7, v8] t)).cell? ⟨w.heap.size, 3, none⟩ = some (.int .i64 a3) := by
  unfold World.cell?
  simp only [heap_alloc_new]
  rfl
theorem fits_one (a0 a1 a2 a3 a5 a6 a8 : Int) (A4 : Option Addr) (l4 c4 : Nat) (A7 : Option Addr) (l7 c7 : Nat) (A : Option Addr) (c : Nat) (m : List Int) (w : World) (hmax : m.length ≤ 9223372036854775807) (hc : m.length ≤ c) (hr : IRow w A m) :
    Calls Tryz.prog 5 #[.agg #[.int .i64 a0, .int .i64 a1, .int .i64 a2, .int .i64 a3, .slice A4 l4 c4, .int .i64 a5, .int .i64 a6, .slice A7 l7 c7, .int .i64 a8], .slice A m.length c, .int .i64 1] w fun e w' => e = .returned (.bool (fits a3 m 1)) ∧ Below w.heap.size w w' := by
  have HB := Aside0.mk (Below.refl w.heap.size w)
  have CM := fun W : World => Aside0.mk (most_one W)
  by_cases hs : a3 ≤ 9728
  · have s0 : decide (9728 < a3) = false := decide_eq_false (by omega)
    have s1 : decide (a3 > 9728) = false := decide_eq_false (by omega)
    by_cases hl : m.length ≤ 76
    · have e : fits a3 m 1 = true := by
        unfold fits
        rw [show most 1 = 76 from rfl, List.drop_eq_nil_of_le (by simpa using hl)]
        simp; omega
      rw [e]
      have d0 : decide ((m.length : Int) ≤ 76) = true := decide_eq_true (by omega)
      clear hs hl hr e hmax hc
      go_enter Tryz.func5, Tryz.ntmps5
      go_wp2_with (go_at_call 11; (with_reducible refine (CM _).out.mono ?_); rintro e w' ⟨rfl, hb⟩; have y3 := cell_below hb (box3 w _ a0 a1 a2 a3 _ _ _ _ _))
      all_goals go_ret
      all_goals exact ⟨by first | rfl | (simp; done), (HB.out.alloc (Nat.le_refl _) _).trans (hb.mono (HB.out.alloc (Nat.le_refl _) _).size)⟩
    · have e : fits a3 m 1 = !((m.drop 76).any fun x => x != 0) := by
        unfold fits
        rw [show most 1 = 76 from rfl]
        have : decide (a3 ≤ 128 * 76) = true := decide_eq_true (by omega)
        rw [this]; rfl
      rw [e]
      have d0 : decide ((m.length : Int) ≤ 76) = false := decide_eq_false (by omega)
      obtain ⟨b, o, rfl⟩ : ∃ b o : Nat, A = some ⟨b, o, none⟩ := by
        obtain ⟨b, o, e, _⟩ := hr 0 _ (List.getElem?_eq_getElem (by omega))
        exact ⟨b, o, e⟩
      have CK := fun (W : World) (hb : Below w.heap.size w W) => Aside0.mk (contains_calls (some ⟨b, o + 76, none⟩) (c - 76) (m.drop 76) W (by rw [List.length_drop]; omega) (row_drop (row_below hb hr) 76))
      rw [List.length_drop] at CK
      have g0 : (0 : Int) ≤ 76 := by decide
      have g1 : ((76 : Int) ≤ (m.length : Int)) = True := eq_true (by omega)
      have g2 : ((m.length : Int) ≤ (c : Int)) = True := eq_true (by omega)
      have g3 : ((76 : Int) ≤ (c : Int)) = True := eq_true (by omega)
      have g4 : (c = 76) = False := eq_false (by omega)
      have g5 : decide ((76 : Int) ≤ (m.length : Int)) = true := decide_eq_true (by omega)
      generalize ((m.drop 76).any fun x => x != 0) = t at *
      clear hs hl hr e hmax hc
      go_enter Tryz.func5, Tryz.ntmps5
      go_wp2_with (first
        | (go_at_call 11; (with_reducible refine (CM _).out.mono ?_); rintro e w' ⟨rfl, hb⟩; have y3 := cell_below hb (box3 w _ a0 a1 a2 a3 _ _ _ _ _); have HB2 := Aside0.mk ((HB.out.alloc (Nat.le_refl _) _).trans (hb.mono (HB.out.alloc (Nat.le_refl _) _).size)); clear hb)
        | (go_at_call 12; (with_reducible refine (CK _ HB2.out).out.mono ?_); rintro e w' ⟨rfl, hb⟩))
      all_goals go_ret
      all_goals exact ⟨by first | rfl | (simp; done), HB2.out.trans (hb.mono HB2.out.size)⟩
  · have e : fits a3 m 1 = false := by
      unfold fits
      rw [show most 1 = 76 from rfl]
      have : decide (a3 ≤ 128 * 76) = false := decide_eq_false (by omega)
      rw [this]; simp
    rw [e]
    have s0 : decide (9728 < a3) = true := decide_eq_true (by omega)
    have s1 : decide (a3 > 9728) = true := decide_eq_true (by omega)
    clear hs hr e hmax hc
    go_enter Tryz.func5, Tryz.ntmps5
    go_wp2_with (go_at_call 11; (with_reducible refine (CM _).out.mono ?_); rintro e w' ⟨rfl, hb⟩; have y3 := cell_below hb (box3 w _ a0 a1 a2 a3 _ _ _ _ _))
    all_goals go_ret
    all_goals exact ⟨by first | rfl | (simp; done), (HB.out.alloc (Nat.le_refl _) _).trans (hb.mono (HB.out.alloc (Nat.le_refl _) _).size)⟩
theorem fits_two (a0 a1 a2 a3 a5 a6 a8 : Int) (A4 : Option Addr) (l4 c4 : Nat) (A7 : Option Addr) (l7 c7 : Nat) (A : Option Addr) (c : Nat) (m : List Int) (w : World) (hmax : m.length ≤ 9223372036854775807) (hc : m.length ≤ c) (hr : IRow w A m) :
    Calls Tryz.prog 5 #[.agg #[.int .i64 a0, .int .i64 a1, .int .i64 a2, .int .i64 a3, .slice A4 l4 c4, .int .i64 a5, .int .i64 a6, .slice A7 l7 c7, .int .i64 a8], .slice A m.length c, .int .i64 2] w fun e w' => e = .returned (.bool (fits a3 m 2)) ∧ Below w.heap.size w w' := by
  have HB := Aside0.mk (Below.refl w.heap.size w)
  have CM := fun W : World => Aside0.mk (most_two W)
  by_cases hs : a3 ≤ 15360
  · have s0 : decide (15360 < a3) = false := decide_eq_false (by omega)
    have s1 : decide (a3 > 15360) = false := decide_eq_false (by omega)
    by_cases hl : m.length ≤ 120
    · have e : fits a3 m 2 = true := by
        unfold fits
        rw [show most 2 = 120 from rfl, List.drop_eq_nil_of_le (by simpa using hl)]
        simp; omega
      rw [e]
      have d0 : decide ((m.length : Int) ≤ 120) = true := decide_eq_true (by omega)
      clear hs hl hr e hmax hc
      go_enter Tryz.func5, Tryz.ntmps5
      go_wp2_with (go_at_call 11; (with_reducible refine (CM _).out.mono ?_); rintro e w' ⟨rfl, hb⟩; have y3 := cell_below hb (box3 w _ a0 a1 a2 a3 _ _ _ _ _))
      all_goals go_ret
      all_goals exact ⟨by first | rfl | (simp; done), (HB.out.alloc (Nat.le_refl _) _).trans (hb.mono (HB.out.alloc (Nat.le_refl _) _).size)⟩
    · have e : fits a3 m 2 = !((m.drop 120).any fun x => x != 0) := by
        unfold fits
        rw [show most 2 = 120 from rfl]
        have : decide (a3 ≤ 128 * 120) = true := decide_eq_true (by omega)
        rw [this]; rfl
      rw [e]
      have d0 : decide ((m.length : Int) ≤ 120) = false := decide_eq_false (by omega)
      obtain ⟨b, o, rfl⟩ : ∃ b o : Nat, A = some ⟨b, o, none⟩ := by
        obtain ⟨b, o, e, _⟩ := hr 0 _ (List.getElem?_eq_getElem (by omega))
        exact ⟨b, o, e⟩
      have CK := fun (W : World) (hb : Below w.heap.size w W) => Aside0.mk (contains_calls (some ⟨b, o + 120, none⟩) (c - 120) (m.drop 120) W (by rw [List.length_drop]; omega) (row_drop (row_below hb hr) 120))
      rw [List.length_drop] at CK
      have g0 : (0 : Int) ≤ 120 := by decide
      have g1 : ((120 : Int) ≤ (m.length : Int)) = True := eq_true (by omega)
      have g2 : ((m.length : Int) ≤ (c : Int)) = True := eq_true (by omega)
      have g3 : ((120 : Int) ≤ (c : Int)) = True := eq_true (by omega)
      have g4 : (c = 120) = False := eq_false (by omega)
      have g5 : decide ((120 : Int) ≤ (m.length : Int)) = true := decide_eq_true (by omega)
      generalize ((m.drop 120).any fun x => x != 0) = t at *
      clear hs hl hr e hmax hc
      go_enter Tryz.func5, Tryz.ntmps5
      go_wp2_with (first
        | (go_at_call 11; (with_reducible refine (CM _).out.mono ?_); rintro e w' ⟨rfl, hb⟩; have y3 := cell_below hb (box3 w _ a0 a1 a2 a3 _ _ _ _ _); have HB2 := Aside0.mk ((HB.out.alloc (Nat.le_refl _) _).trans (hb.mono (HB.out.alloc (Nat.le_refl _) _).size)); clear hb)
        | (go_at_call 12; (with_reducible refine (CK _ HB2.out).out.mono ?_); rintro e w' ⟨rfl, hb⟩))
      all_goals go_ret
      all_goals exact ⟨by first | rfl | (simp; done), HB2.out.trans (hb.mono HB2.out.size)⟩
  · have e : fits a3 m 2 = false := by
      unfold fits
      rw [show most 2 = 120 from rfl]
      have : decide (a3 ≤ 128 * 120) = false := decide_eq_false (by omega)
      rw [this]; simp
    rw [e]
    have s0 : decide (15360 < a3) = true := decide_eq_true (by omega)
    have s1 : decide (a3 > 15360) = true := decide_eq_true (by omega)
    clear hs hr e hmax hc
    go_enter Tryz.func5, Tryz.ntmps5
    go_wp2_with (go_at_call 11; (with_reducible refine (CM _).out.mono ?_); rintro e w' ⟨rfl, hb⟩; have y3 := cell_below hb (box3 w _ a0 a1 a2 a3 _ _ _ _ _))
    all_goals go_ret
    all_goals exact ⟨by first | rfl | (simp; done), (HB.out.alloc (Nat.le_refl _) _).trans (hb.mono (HB.out.alloc (Nat.le_refl _) _).size)⟩
theorem fits_none (f : Int) (h1 : f ≠ 1) (h2 : f ≠ 2) (a0 a1 a2 a3 a5 a6 a8 : Int) (A4 : Option Addr) (l4 c4 : Nat) (A7 : Option Addr) (l7 c7 : Nat) (A : Option Addr) (c n : Nat) (w : World) :
    Calls Tryz.prog 5 #[.agg #[.int .i64 a0, .int .i64 a1, .int .i64 a2, .int .i64 a3, .slice A4 l4 c4, .int .i64 a5, .int .i64 a6, .slice A7 l7 c7, .int .i64 a8], .slice A n c, .int .i64 f] w fun e w' => e = .returned (.bool false) ∧ Below w.heap.size w w' := by
  have HB := Aside0.mk (Below.refl w.heap.size w)
  have CM := fun W : World => Aside0.mk (most_none f h1 h2 W)
  clear h1 h2
  go_enter Tryz.func5, Tryz.ntmps5
  go_wp2_with (go_at_call 11; (with_reducible refine (CM _).out.mono ?_); rintro e w' ⟨rfl, hb⟩)
  all_goals go_ret
  all_goals exact ⟨by first | rfl | (simp; done), (HB.out.alloc (Nat.le_refl _) _).trans (hb.mono (HB.out.alloc (Nat.le_refl _) _).size)⟩
theorem ref_one (a0 a1 a2 a3 a5 a6 a8 : Int) (A4 : Option Addr) (l4 c4 : Nat) (A7 : Option Addr) (l7 c7 : Nat) (A : Option Addr) (c : Nat) (m : List Int) (w : World) (hmax : m.length ≤ 9223372036854775807) (hc : m.length ≤ c) (hr : IRow w A m) :
    Calls Tryz.prog 6 #[.agg #[.int .i64 a0, .int .i64 a1, .int .i64 a2, .int .i64 a3, .slice A4 l4 c4, .int .i64 a5, .int .i64 a6, .slice A7 l7 c7, .int .i64 a8], .slice A m.length c, .int .i64 1] w fun e w' => e = .returned (.bool (fits a3 m 1)) ∧ Below w.heap.size w w' := by
  have CM : ∀ W : World, Aside0 (Calls Tryz.prog 14 #[.int .i64 1] W fun e w' => e = .returned (.int .i64 76) ∧ Below W.heap.size W w') := fun W => Aside0.mk (refMost_calls 1 W)
  have ef : fits a3 m 1 = (decide (a3 ≤ 9728) && !((m.drop 76).any fun x => x != 0)) := by
    unfold fits
    rw [show most 1 = 76 from rfl]
    rfl
  rw [ef]
  clear ef
  have HB := Aside0.mk (Below.refl w.heap.size w)
  have HR := Aside0.mk hr
  clear hr
  go_enter Tryz.func6, Tryz.ntmps6
  go_wp2_with (go_at_call 14; (with_reducible refine (CM _).out.mono ?_); rintro e w' ⟨rfl, hb⟩; have y3 := cell_below hb (box3 w _ a0 a1 a2 a3 _ _ _ _ _); replace HB := Aside0.mk ((HB.out.alloc (Nat.le_refl _) _).trans (hb.mono (HB.out.alloc (Nat.le_refl _) _).size)); clear hb)
  go_loopg [8] m.length (fun kq v8 wx => ∃ i : Nat, v8 = .int .i64 (i : Int) ∧ 76 ≤ i ∧ (i ≤ m.length ∨ i = 76) ∧ m.length ≤ i + kq ∧ Aside0 (((m.drop i).any fun x => x != 0) = ((m.drop 76).any fun x => x != 0)) ∧ wx = w')
  case atStart => exact ⟨76, rfl, Nat.le_refl _, Or.inr rfl, by omega, ⟨rfl⟩, rfl⟩
  case round =>
    obtain ⟨i, rfl, hn, hi, hfu, HA, rfl⟩ := hrel
    by_cases hlt : i < m.length
    · obtain ⟨k1, rfl⟩ : ∃ k1, gk = k1 + 1 := ⟨gk - 1, by omega⟩
      have hd : m.drop i = m[i] :: m.drop (i + 1) := List.drop_eq_getElem_cons hlt
      have hh := HA.out
      rw [hd, List.any_cons] at hh
      clear HA hd
      have hltI : decide ((i : Int) < (m.length : Int)) = true := decide_eq_true (by omega)
      have p1 : 0 ≤ (i : Int) := by omega
      have q1 : (i : Int) < (m.length : Int) := by omega
      obtain ⟨b, o, rfl, hx⟩ := row_below HB.out HR.out i _ (List.getElem?_eq_getElem hlt)
      generalize m[i] = X at *
      have hwr : wrap64 ((i : Int) + 1) = ((i + 1 : Nat) : Int) := by
        simp only [wrap64]
        omega
      have HH := Aside0.mk hh
      clear hh
      replace p1 := eq_true p1
      replace q1 := eq_true q1
      cases ht : (X != 0) with
      | true =>
        rw [ht] at HH
        go_wp2
        go_ret
        exact ⟨by rw [← HH.out]; simp, HB.out⟩
      | false =>
        rw [ht] at HH
        go_wp2
        go_roundg k1
        case measure => omega
        case rel => exact ⟨i + 1, by first | rfl | (rw [hwr]; done), by omega, Or.inl (by omega), by omega, ⟨by simpa using HH.out⟩, rfl⟩
    · have hltI : decide ((i : Int) < (m.length : Int)) = false := decide_eq_false (by omega)
      have hh := HA.out
      rw [List.drop_eq_nil_of_le (by omega)] at hh
      replace hh : false = (m.drop 76).any fun x => x != 0 := hh
      have HH := Aside0.mk hh
      clear hh HA
      go_wp2
      all_goals go_ret
      all_goals exact ⟨by rw [← HH.out]; simp, HB.out⟩
theorem ref_two (a0 a1 a2 a3 a5 a6 a8 : Int) (A4 : Option Addr) (l4 c4 : Nat) (A7 : Option Addr) (l7 c7 : Nat) (A : Option Addr) (c : Nat) (m : List Int) (w : World) (hmax : m.length ≤ 9223372036854775807) (hc : m.length ≤ c) (hr : IRow w A m) :
    Calls Tryz.prog 6 #[.agg #[.int .i64 a0, .int .i64 a1, .int .i64 a2, .int .i64 a3, .slice A4 l4 c4, .int .i64 a5, .int .i64 a6, .slice A7 l7 c7, .int .i64 a8], .slice A m.length c, .int .i64 2] w fun e w' => e = .returned (.bool (fits a3 m 2)) ∧ Below w.heap.size w w' := by
  have CM : ∀ W : World, Aside0 (Calls Tryz.prog 14 #[.int .i64 2] W fun e w' => e = .returned (.int .i64 120) ∧ Below W.heap.size W w') := fun W => Aside0.mk (refMost_calls 2 W)
  have ef : fits a3 m 2 = (decide (a3 ≤ 15360) && !((m.drop 120).any fun x => x != 0)) := by
    unfold fits
    rw [show most 2 = 120 from rfl]
    rfl
  rw [ef]
  clear ef
  have HB := Aside0.mk (Below.refl w.heap.size w)
  have HR := Aside0.mk hr
  clear hr
  go_enter Tryz.func6, Tryz.ntmps6
  go_wp2_with (go_at_call 14; (with_reducible refine (CM _).out.mono ?_); rintro e w' ⟨rfl, hb⟩; have y3 := cell_below hb (box3 w _ a0 a1 a2 a3 _ _ _ _ _); replace HB := Aside0.mk ((HB.out.alloc (Nat.le_refl _) _).trans (hb.mono (HB.out.alloc (Nat.le_refl _) _).size)); clear hb)
  go_loopg [8] m.length (fun kq v8 wx => ∃ i : Nat, v8 = .int .i64 (i : Int) ∧ 120 ≤ i ∧ (i ≤ m.length ∨ i = 120) ∧ m.length ≤ i + kq ∧ Aside0 (((m.drop i).any fun x => x != 0) = ((m.drop 120).any fun x => x != 0)) ∧ wx = w')
  case atStart => exact ⟨120, rfl, Nat.le_refl _, Or.inr rfl, by omega, ⟨rfl⟩, rfl⟩
  case round =>
    obtain ⟨i, rfl, hn, hi, hfu, HA, rfl⟩ := hrel
    by_cases hlt : i < m.length
    · obtain ⟨k1, rfl⟩ : ∃ k1, gk = k1 + 1 := ⟨gk - 1, by omega⟩
      have hd : m.drop i = m[i] :: m.drop (i + 1) := List.drop_eq_getElem_cons hlt
      have hh := HA.out
      rw [hd, List.any_cons] at hh
      clear HA hd
      have hltI : decide ((i : Int) < (m.length : Int)) = true := decide_eq_true (by omega)
      have p1 : 0 ≤ (i : Int) := by omega
      have q1 : (i : Int) < (m.length : Int) := by omega
      obtain ⟨b, o, rfl, hx⟩ := row_below HB.out HR.out i _ (List.getElem?_eq_getElem hlt)
      generalize m[i] = X at *
      have hwr : wrap64 ((i : Int) + 1) = ((i + 1 : Nat) : Int) := by
        simp only [wrap64]
        omega
      have HH := Aside0.mk hh
      clear hh
      replace p1 := eq_true p1
      replace q1 := eq_true q1
      cases ht : (X != 0) with
      | true =>
        rw [ht] at HH
        go_wp2
        go_ret
        exact ⟨by rw [← HH.out]; simp, HB.out⟩
      | false =>
        rw [ht] at HH
        go_wp2
        go_roundg k1
        case measure => omega
        case rel => exact ⟨i + 1, by first | rfl | (rw [hwr]; done), by omega, Or.inl (by omega), by omega, ⟨by simpa using HH.out⟩, rfl⟩
    · have hltI : decide ((i : Int) < (m.length : Int)) = false := decide_eq_false (by omega)
      have hh := HA.out
      rw [List.drop_eq_nil_of_le (by omega)] at hh
      replace hh : false = (m.drop 120).any fun x => x != 0 := hh
      have HH := Aside0.mk hh
      clear hh HA
      go_wp2
      all_goals go_ret
      all_goals exact ⟨by rw [← HH.out]; simp, HB.out⟩
theorem ref_none (f : Int) (h1 : f ≠ 1) (h2 : f ≠ 2) (a0 a1 a2 a3 a5 a6 a8 : Int) (A4 : Option Addr) (l4 c4 : Nat) (A7 : Option Addr) (l7 c7 : Nat) (A : Option Addr) (c : Nat) (m : List Int) (w : World) (hmax : m.length ≤ 9223372036854775807) (hc : m.length ≤ c) (hr : IRow w A m) :
    Calls Tryz.prog 6 #[.agg #[.int .i64 a0, .int .i64 a1, .int .i64 a2, .int .i64 a3, .slice A4 l4 c4, .int .i64 a5, .int .i64 a6, .slice A7 l7 c7, .int .i64 a8], .slice A m.length c, .int .i64 f] w fun e w' => e = .returned (.bool (fits a3 m f)) ∧ Below w.heap.size w w' := by
  have em : most f = 0 := by simp [most, h1, h2]
  have ef : fits a3 m f = false := by unfold fits; rw [em]; rfl
  have CM := fun W : World => Aside0.mk (refMost_calls f W)
  rw [em] at CM
  rw [ef]
  clear h1 h2 em ef
  have HB := Aside0.mk (Below.refl w.heap.size w)
  have HR := Aside0.mk hr
  clear hr
  go_enter Tryz.func6, Tryz.ntmps6
  go_wp2_with (go_at_call 14; (with_reducible refine (CM _).out.mono ?_); rintro e w' ⟨rfl, hb⟩; have y3 := cell_below hb (box3 w _ a0 a1 a2 a3 _ _ _ _ _); replace HB := Aside0.mk ((HB.out.alloc (Nat.le_refl _) _).trans (hb.mono (HB.out.alloc (Nat.le_refl _) _).size)); clear hb)
  go_loopg [8] m.length (fun kq v8 wx => ∃ i : Nat, v8 = .int .i64 (i : Int) ∧ 0 ≤ i ∧ (i ≤ m.length ∨ i = 0) ∧ m.length ≤ i + kq ∧ Aside0 (((m.drop i).any fun x => x != 0) = ((m.drop 0).any fun x => x != 0)) ∧ wx = w')
  case atStart => exact ⟨0, rfl, Nat.le_refl _, Or.inr rfl, by omega, ⟨rfl⟩, rfl⟩
  case round =>
    obtain ⟨i, rfl, hn, hi, hfu, HA, rfl⟩ := hrel
    by_cases hlt : i < m.length
    · obtain ⟨k1, rfl⟩ : ∃ k1, gk = k1 + 1 := ⟨gk - 1, by omega⟩
      have hd : m.drop i = m[i] :: m.drop (i + 1) := List.drop_eq_getElem_cons hlt
      have hh := HA.out
      rw [hd, List.any_cons] at hh
      clear HA hd
      have hltI : decide ((i : Int) < (m.length : Int)) = true := decide_eq_true (by omega)
      have p1 : 0 ≤ (i : Int) := by omega
      have q1 : (i : Int) < (m.length : Int) := by omega
      obtain ⟨b, o, rfl, hx⟩ := row_below HB.out HR.out i _ (List.getElem?_eq_getElem hlt)
      generalize m[i] = X at *
      have hwr : wrap64 ((i : Int) + 1) = ((i + 1 : Nat) : Int) := by
        simp only [wrap64]
        omega
      have HH := Aside0.mk hh
      clear hh
      replace p1 := eq_true p1
      replace q1 := eq_true q1
      cases ht : (X != 0) with
      | true =>
        rw [ht] at HH
        go_wp2
        go_ret
        exact ⟨by first | rfl | (simp; done), HB.out⟩
      | false =>
        rw [ht] at HH
        go_wp2
        go_roundg k1
        case measure => omega
        case rel => exact ⟨i + 1, by first | rfl | (rw [hwr]; done), by omega, Or.inl (by omega), by omega, ⟨by simpa using HH.out⟩, rfl⟩
    · have hltI : decide ((i : Int) < (m.length : Int)) = false := decide_eq_false (by omega)
      have hh := HA.out
      rw [List.drop_eq_nil_of_le (by omega)] at hh
      replace hh : false = (m.drop 0).any fun x => x != 0 := hh
      clear hh HA
      go_wp2
      all_goals go_ret
      all_goals exact ⟨by first | rfl | (simp; done) | (simp_all; done), HB.out⟩
end Go.Proofs.YtgljlgchfahjdaaGreatDoor.Fits
