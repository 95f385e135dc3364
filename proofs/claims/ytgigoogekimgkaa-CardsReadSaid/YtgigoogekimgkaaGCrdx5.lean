/- printed for this claim by gprint.py, a program of this session, that drives the kit's printer. -/
import Derived.Test.YtgigoogekimgkaaGCrdx0
import Derived.Test.YtgigoogekimgkaaZ
import Derived.Test.YtgigoogekimgkaaGCrdx2
import Derived.Test.YtgigoogekimgkaaGCrdx4
namespace Go.Proofs.Ytgigoogekimgkaa.GCrd
open Go.RowKit Go.Proofs.YtgigoogekimgkaaW.PrintWords Go.Proofs.YtgigoogekimgkaaW.PrintLast Go.Proofs.YtgigoogekimgkaaW.PrintMore
attribute [local go_sem] max2_int min2_int max_two min_two max_three min_three max_four min_four   -- for this text's walks alone
set_option linter.unusedVariables false
set_option linter.unusedSimpArgs false

/-! ### GOddI: a call with a constant function -/
def GOddI.l0 : List Int → Option (Bool)
 | [] => some false
 | x :: r => (cards_odd.f x).bind fun t => if t = true then some true else GOddI.l0 r
def GOddI.f (l0 : List Int) : Option (Bool) := GOddI.l0 l0
set_option maxHeartbeats 2000000 in
set_option maxRecDepth 100000 in
theorem GOddI.index (A0 : Option Addr) (c0 : Nat) (l0 : List Int) (r : Bool) (w : World) (hr0 : Kd.C (Kd.int .i64) w A0 l0.length l0) (h : GOddI.f l0 = some r) :
 Calls Try.prog 50 #[.slice A0 l0.length c0, .func (.func 30) #[] #[]] w fun e w' => (∃ i : Int, e = .returned (.int .i64 i) ∧ (i = -1 ∨ 0 ≤ i) ∧ r = decide (0 ≤ i)) ∧ Drawn0 w w' := by
 have HR := Aside0.mk hr0
 have hmax := hr0.2.1
 clear hr0
 have H := Aside0.mk h
 clear h
 go_enter Try.func50, Try.ntmps50
 go_wp2
 go_loopg [8] l0.length (fun kq v8 wx => ∃ i : Nat, v8 = .int .i64 (i : Int) ∧ i ≤ l0.length ∧ l0.length ≤ i + kq ∧ Aside0 (GOddI.l0 (l0.drop i) = some r) ∧ ∃ m, wx = w.drewN m)
 case atStart => exact ⟨0, rfl, Nat.zero_le _, by omega, H, 0, rfl⟩
 case round =>
  obtain ⟨i, rfl, hi, hfu, HA, m, rfl⟩ := hrel
  by_cases hlt : i < l0.length
  · obtain ⟨k1, rfl⟩ : ∃ k1, gk = k1 + 1 := ⟨gk - 1, by omega⟩
    have hd : l0.drop i = l0[i] :: l0.drop (i + 1) := List.drop_eq_getElem_cons hlt
    have hh := HA.out
    rw [hd] at hh
    simp only [GOddI.l0] at hh
    obtain ⟨t, ht, hh2⟩ := Option.bind_eq_some_iff.1 hh
    clear hh
    clear HA hd
    have hltI : decide ((i : Int) < (l0.length : Int)) = true := decide_eq_true (by omega)
    have p1 : 0 ≤ (i : Int) := by omega
    have q1 : (i : Int) < (l0.length : Int) := by omega
    obtain ⟨ad, e1, hx⟩ := Kd.at_int HR.out (i : Int) p1 q1
    cases e1
    have hv : rd l0 (i : Int) = l0[i] := by
     unfold rd
     rw [Int.toNat_natCast, List.getD_eq_getElem?_getD, List.getElem?_eq_getElem hlt]; rfl
    rw [hv, Int.toNat_natCast] at hx
    generalize l0[i] = X at *
    have c : ∀ W : World, Calls Try.prog 30 #[.int .i64 X] W fun e w' => e = .returned (.bool t) ∧ Drawn0 W w' := fun W => cards_odd.calls X t W ht
    have C := Aside0.mk c
    have HH := Aside0.mk hh2
    have hwr : wrap64 ((i : Int) + 1) = ((i + 1 : Nat) : Int) := by
     simp only [wrap64]
     omega
    clear c ht hh2
    replace p1 := eq_true p1
    replace q1 := eq_true q1
    cases t with
    | true =>
      go_wp2_with (go_at_call 30; (with_reducible refine (C.out _).mono ?_); rintro e w' ⟨rfl, nd, rfl⟩)
      go_ret
      have hr := HH.out
      have : r = true := by simpa using hr.symm
      subst this
      exact ⟨⟨(i : Int), rfl, Or.inr (by omega), by simp⟩, ⟨m + nd, rfl⟩⟩
    | false =>
      go_wp2_with (go_at_call 30; (with_reducible refine (C.out _).mono ?_); rintro e w' ⟨rfl, nd, rfl⟩)
      go_roundg k1
      case measure => omega
      case rel => exact ⟨i + 1, by first | rfl | (rw [hwr]; done), by omega, by omega, ⟨by simpa using HH.out⟩, m + nd, rfl⟩
  · have hltI : decide ((i : Int) < (l0.length : Int)) = false := decide_eq_false (by omega)
    have hh := HA.out
    rw [List.drop_eq_nil_of_le (by omega)] at hh
    have : r = false := by simpa [GOddI.l0] using hh.symm
    subst this
    go_wp2
    go_ret
    exact ⟨⟨-1, rfl, Or.inl rfl, by decide⟩, ⟨m, rfl⟩⟩
theorem GOddI.calls (A0 : Option Addr) (c0 : Nat) (l0 : List Int) (r : Bool) (w : World) (hr0 : Kd.C (Kd.int .i64) w A0 l0.length l0) (_hc0 : l0.length ≤ c0) (h : GOddI.f l0 = some r) :
 Calls Try.prog 29 #[.slice A0 l0.length c0, .func (.func 30) #[] #[]] w fun e w' => e = .returned (.bool r) ∧ Drawn0 w w' := by
 have C := Aside0.mk (GOddI.index A0 c0 l0 r w hr0 h)
 clear hr0 h
 generalize l0.length = n at *
 go_enter Try.func29, Try.ntmps29
 go_wp2_with (go_at_call 50; (with_reducible refine C.out.mono ?_); rintro e w' ⟨⟨i, rfl, hi, rfl⟩, nd, rfl⟩)
 go_ret
 exact ⟨rfl, nd, rfl⟩
/-! ### cards_Right: function 11 -/
def cards_Right.f (k : Nat) (a0_0 : Int) (a0_1 : Int) (a0_2 : Int) (a0_3 : Int) (l0_4 : List Int) (a0_5 : Int) (a0_6 : Int) (l0_7 : List (S48)) (a0_8 : Int) : Option (Bool) := (sl_Cc.f k (([l0_4, (([a0_5, a0_6, a0_8] : List Int))] : List (List Int)))).bind fun t133 => ((cards_none.f k a0_0 a0_1 a0_2 a0_3 l0_4 a0_5 a0_6 l0_7 a0_8).bind fun t136 => (if t136 = true then (some true) else ((GOddI.f t133).bind fun t137 => (if t137 = true then (some false) else (if a0_0 = 1 then ((cards_head.f a0_0 a0_1 a0_2 a0_3 l0_4 a0_5 a0_6 l0_7 a0_8 76).bind fun t138 => (if t138 = true then (if (l0_4.length : Int) = 4 then (if (l0_7.length : Int) = 0 then (some (a0_8 == 0)) else (some false)) else (some false)) else (some false))) else (if a0_0 = 2 then (if (l0_7.length : Int) ≤ 3 then ((spans_Right.f k l0_7).bind fun t139 => (if t139 = true then (if a0_8 = 0 then ((cards_head.f a0_0 a0_1 a0_2 a0_3 l0_4 a0_5 a0_6 l0_7 a0_8 120).bind fun t140 => (if t140 = true then (if (l0_4.length : Int) = 0 then (if a0_5 = 0 then (some (a0_6 == 0)) else (some false)) else (some false)) else (some false))) else ((cards_head.f a0_0 a0_1 a0_2 a0_3 l0_4 a0_5 a0_6 l0_7 a0_8 120).bind fun t141 => (if t141 = true then (if (l0_7.length : Int) = 3 then (if (l0_4.length : Int) = 0 then (if a0_5 = 0 then (some (a0_6 == 0)) else (some false)) else (some false)) else (some false)) else (some false)))) else ((cards_head.f a0_0 a0_1 a0_2 a0_3 l0_4 a0_5 a0_6 l0_7 a0_8 120).bind fun t142 => (if t142 = true then (some false) else (some false))))) else ((cards_head.f a0_0 a0_1 a0_2 a0_3 l0_4 a0_5 a0_6 l0_7 a0_8 120).bind fun t143 => (if t143 = true then (some false) else (some false)))) else (some false)))))))
theorem cards_Right.mono : ∀ a0 a1 a2 a3 a4 a5 a6 a7 a8 k, LeO (cards_Right.f k a0 a1 a2 a3 a4 a5 a6 a7 a8) (cards_Right.f (k + 1) a0 a1 a2 a3 a4 a5 a6 a7 a8) := by
 intro a0 a1 a2 a3 a4 a5 a6 a7 a8 k
 unfold cards_Right.f
 repeat' first
  | (with_reducible exact cards_none.mono _ _ _ _ _ _ _ _ _ _)
  | (with_reducible exact sl_Cc.mono _ _)
  | (with_reducible exact spans_Right.mono _ _)
  | (with_reducible exact LeO.refl _)
  | (with_reducible exact LeO.none _)
  | (with_reducible refine LeO.ite ?_ ?_)
  | (with_reducible refine LeO.bind ?_ (fun _ => ?_))
  | exact cards_none.mono _ _ _ _ _ _ _ _ _ _
  | exact sl_Cc.mono _ _
  | exact spans_Right.mono _ _
  | exact LeO.none _
  | refine LeO.ite ?_ ?_
  | refine LeO.bind ?_ (fun _ => ?_)
set_option maxHeartbeats 8000000 in
set_option maxRecDepth 100000 in
theorem cards_Right.calls (k : Nat) (a0_0 : Int) (a0_1 : Int) (a0_2 : Int) (a0_3 : Int) (P0_4_ : Nat → Prop) (A0_4 : Option Addr) (c0_4 : Nat) (l0_4 : List Int) (a0_5 : Int) (a0_6 : Int) (A0_7 : Option Addr) (c0_7 : Nat) (l0_7 : List (S48)) (a0_8 : Int) (r : Bool) (w : World) (hs0_4 : Kd.V (Kd.int .i64) 3 w w.heap.size (fun k_ => P0_4_ k_) (.slice A0_4 l0_4.length c0_4) l0_4) (hr0_7 : Kd.C k48 w A0_7 l0_7.length l0_7) (hc0_7 : l0_7.length ≤ c0_7) (h : cards_Right.f k a0_0 a0_1 a0_2 a0_3 l0_4 a0_5 a0_6 l0_7 a0_8 = some r) :
 Calls Try.prog 11 #[.agg #[.int .i64 a0_0, .int .i64 a0_1, .int .i64 a0_2, .int .i64 a0_3, .slice A0_4 l0_4.length c0_4, .int .i64 a0_5, .int .i64 a0_6, .slice A0_7 l0_7.length c0_7, .int .i64 a0_8]] w fun e w' => e = .returned (.bool r) ∧ Below w.heap.size w w' := by
 have hu25 := Try.underlying25
 have HO0_4 := Aside0.mk (show Kd.V (Kd.int .i64) 3 w w.heap.size (fun k_ => (P0_4_ k_ ∨ w.heap.size ≤ k_)) (.slice A0_4 l0_4.length c0_4) l0_4 from Kd.V_mono hs0_4 (fun k_ hk => .inl hk))
 have HR0_7 := Aside0.mk hr0_7
 have HC0_7 := Aside0.mk hc0_7
 clear hr0_7 hc0_7
 have HB := Aside0.mk (Below.refl w.heap.size w)
 have H : ((sl_Cc.f k (([l0_4, (([a0_5, a0_6, a0_8] : List Int))] : List (List Int)))).bind fun t133 => ((cards_none.f k a0_0 a0_1 a0_2 a0_3 l0_4 a0_5 a0_6 l0_7 a0_8).bind fun t136 => (if t136 = true then (some true) else ((GOddI.f t133).bind fun t137 => (if t137 = true then (some false) else (if a0_0 = 1 then ((cards_head.f a0_0 a0_1 a0_2 a0_3 l0_4 a0_5 a0_6 l0_7 a0_8 76).bind fun t138 => (if t138 = true then (if (l0_4.length : Int) = 4 then (if (l0_7.length : Int) = 0 then (some (a0_8 == 0)) else (some false)) else (some false)) else (some false))) else (if a0_0 = 2 then (if (l0_7.length : Int) ≤ 3 then ((spans_Right.f k l0_7).bind fun t139 => (if t139 = true then (if a0_8 = 0 then ((cards_head.f a0_0 a0_1 a0_2 a0_3 l0_4 a0_5 a0_6 l0_7 a0_8 120).bind fun t140 => (if t140 = true then (if (l0_4.length : Int) = 0 then (if a0_5 = 0 then (some (a0_6 == 0)) else (some false)) else (some false)) else (some false))) else ((cards_head.f a0_0 a0_1 a0_2 a0_3 l0_4 a0_5 a0_6 l0_7 a0_8 120).bind fun t141 => (if t141 = true then (if (l0_7.length : Int) = 3 then (if (l0_4.length : Int) = 0 then (if a0_5 = 0 then (some (a0_6 == 0)) else (some false)) else (some false)) else (some false)) else (some false)))) else ((cards_head.f a0_0 a0_1 a0_2 a0_3 l0_4 a0_5 a0_6 l0_7 a0_8 120).bind fun t142 => (if t142 = true then (some false) else (some false))))) else ((cards_head.f a0_0 a0_1 a0_2 a0_3 l0_4 a0_5 a0_6 l0_7 a0_8 120).bind fun t143 => (if t143 = true then (some false) else (some false)))) else (some false)))))))) = some r := h
 clear h
 obtain ⟨yq6, hyq6⟩ : ∃ y_ : List Int, y_ = (([a0_5, a0_6, a0_8] : List Int)) := ⟨_, rfl⟩
 replace H : ((sl_Cc.f k (([l0_4, yq6] : List (List Int)))).bind fun t133 => ((cards_none.f k a0_0 a0_1 a0_2 a0_3 l0_4 a0_5 a0_6 l0_7 a0_8).bind fun t136 => (if t136 = true then (some true) else ((GOddI.f t133).bind fun t137 => (if t137 = true then (some false) else (if a0_0 = 1 then ((cards_head.f a0_0 a0_1 a0_2 a0_3 l0_4 a0_5 a0_6 l0_7 a0_8 76).bind fun t138 => (if t138 = true then (if (l0_4.length : Int) = 4 then (if (l0_7.length : Int) = 0 then (some (a0_8 == 0)) else (some false)) else (some false)) else (some false))) else (if a0_0 = 2 then (if (l0_7.length : Int) ≤ 3 then ((spans_Right.f k l0_7).bind fun t139 => (if t139 = true then (if a0_8 = 0 then ((cards_head.f a0_0 a0_1 a0_2 a0_3 l0_4 a0_5 a0_6 l0_7 a0_8 120).bind fun t140 => (if t140 = true then (if (l0_4.length : Int) = 0 then (if a0_5 = 0 then (some (a0_6 == 0)) else (some false)) else (some false)) else (some false))) else ((cards_head.f a0_0 a0_1 a0_2 a0_3 l0_4 a0_5 a0_6 l0_7 a0_8 120).bind fun t141 => (if t141 = true then (if (l0_7.length : Int) = 3 then (if (l0_4.length : Int) = 0 then (if a0_5 = 0 then (some (a0_6 == 0)) else (some false)) else (some false)) else (some false)) else (some false)))) else ((cards_head.f a0_0 a0_1 a0_2 a0_3 l0_4 a0_5 a0_6 l0_7 a0_8 120).bind fun t142 => (if t142 = true then (some false) else (some false))))) else ((cards_head.f a0_0 a0_1 a0_2 a0_3 l0_4 a0_5 a0_6 l0_7 a0_8 120).bind fun t143 => (if t143 = true then (some false) else (some false)))) else (some false)))))))) = some r := by first | (rw [hyq6]; with_reducible exact H) | (have H2_ := (Option.bind_some _ _).symm.trans H; rw [hyq6]; with_reducible exact H2_) | (have H2_ := (Option.bind_some _ _).symm.trans H; with_reducible exact H2_) | with_reducible exact H | (rw [hyq6]; exact H) | exact H
 have Nyq6 := Aside0.mk hyq6
 clear hyq6
 obtain ⟨yq7, hyq7⟩ : ∃ y_ : List (List Int), y_ = (([l0_4, yq6] : List (List Int))) := ⟨_, rfl⟩
 replace H : ((sl_Cc.f k yq7).bind fun t133 => ((cards_none.f k a0_0 a0_1 a0_2 a0_3 l0_4 a0_5 a0_6 l0_7 a0_8).bind fun t136 => (if t136 = true then (some true) else ((GOddI.f t133).bind fun t137 => (if t137 = true then (some false) else (if a0_0 = 1 then ((cards_head.f a0_0 a0_1 a0_2 a0_3 l0_4 a0_5 a0_6 l0_7 a0_8 76).bind fun t138 => (if t138 = true then (if (l0_4.length : Int) = 4 then (if (l0_7.length : Int) = 0 then (some (a0_8 == 0)) else (some false)) else (some false)) else (some false))) else (if a0_0 = 2 then (if (l0_7.length : Int) ≤ 3 then ((spans_Right.f k l0_7).bind fun t139 => (if t139 = true then (if a0_8 = 0 then ((cards_head.f a0_0 a0_1 a0_2 a0_3 l0_4 a0_5 a0_6 l0_7 a0_8 120).bind fun t140 => (if t140 = true then (if (l0_4.length : Int) = 0 then (if a0_5 = 0 then (some (a0_6 == 0)) else (some false)) else (some false)) else (some false))) else ((cards_head.f a0_0 a0_1 a0_2 a0_3 l0_4 a0_5 a0_6 l0_7 a0_8 120).bind fun t141 => (if t141 = true then (if (l0_7.length : Int) = 3 then (if (l0_4.length : Int) = 0 then (if a0_5 = 0 then (some (a0_6 == 0)) else (some false)) else (some false)) else (some false)) else (some false)))) else ((cards_head.f a0_0 a0_1 a0_2 a0_3 l0_4 a0_5 a0_6 l0_7 a0_8 120).bind fun t142 => (if t142 = true then (some false) else (some false))))) else ((cards_head.f a0_0 a0_1 a0_2 a0_3 l0_4 a0_5 a0_6 l0_7 a0_8 120).bind fun t143 => (if t143 = true then (some false) else (some false)))) else (some false)))))))) = some r := by first | (rw [hyq7]; with_reducible exact H) | (have H2_ := (Option.bind_some _ _).symm.trans H; rw [hyq7]; with_reducible exact H2_) | (have H2_ := (Option.bind_some _ _).symm.trans H; with_reducible exact H2_) | with_reducible exact H | (rw [hyq7]; exact H) | exact H
 have Nyq7 := Aside0.mk hyq7
 clear hyq7
 replace H := Option.bind_eq_some_iff.mp H
 obtain ⟨tq0, Aq0z, H⟩ := H
 have Aq0 := Aside0.mk Aq0z
 clear Aq0z
 replace H := Option.bind_eq_some_iff.mp H
 obtain ⟨tq1, Aq1z, H⟩ := H
 have Aq1 := Aside0.mk Aq1z
 clear Aq1z
 by_cases c4 : tq1 = true
 all_goals (first
  | (skip
     subst c4
     rw [if_pos rfl] at H
     obtain rfl := Option.some.inj H
     have C0_ : True := trivial
     have S0_ : True := trivial)
  | (skip
     replace c4 := Bool.eq_false_iff.mpr c4
     subst c4
     rw [if_neg (show ¬ (false = true) by decide)] at H
     replace H := Option.bind_eq_some_iff.mp H
     obtain ⟨tq2, Aq2z, H⟩ := H
     have Aq2 := Aside0.mk Aq2z
     clear Aq2z
     by_cases c17 : tq2 = true
     all_goals (first
      | (skip
         subst c17
         rw [if_pos rfl] at H
         obtain rfl := Option.some.inj H
         have C0_ : True := trivial
         have S0_ : True := trivial)
      | (skip
         replace c17 := Bool.eq_false_iff.mpr c17
         subst c17
         rw [if_neg (show ¬ (false = true) by decide)] at H
         by_cases c30 : a0_0 = 1
         all_goals (first
          | (skip
             rw [if_pos c30] at H
             have c30b0 : (a0_0 == 1) = true := beq_iff_eq.mpr c30
             have c30b1 : (a0_0 != 1) = false := bne_eq_false_iff_eq.mpr c30
             clear c30
             replace H := Option.bind_eq_some_iff.mp H
             obtain ⟨tq3, Aq3z, H⟩ := H
             have Aq3 := Aside0.mk Aq3z
             clear Aq3z
             by_cases c32 : tq3 = true
             all_goals (first
              | (skip
                 subst c32
                 rw [if_pos rfl] at H
                 by_cases c33 : (l0_4.length : Int) = 4
                 all_goals (first
                  | (skip
                     rw [if_pos c33] at H
                     have c33b0 : ((l0_4.length : Int) == 4) = true := beq_iff_eq.mpr c33
                     have c33b1 : ((l0_4.length : Int) != 4) = false := bne_eq_false_iff_eq.mpr c33
                     clear c33
                     by_cases c34 : (l0_7.length : Int) = 0
                     all_goals (first
                      | (skip
                         rw [if_pos c34] at H
                         have c34b0 : ((l0_7.length : Int) == 0) = true := beq_iff_eq.mpr c34
                         have c34b1 : ((l0_7.length : Int) != 0) = false := bne_eq_false_iff_eq.mpr c34
                         clear c34
                         obtain rfl := Option.some.inj H
                         have C0_ : True := trivial
                         have S0_ : True := trivial)
                      | (skip
                         rw [if_neg c34] at H
                         have c34b0 : ((l0_7.length : Int) == 0) = false := beq_eq_false_iff_ne.mpr c34
                         have c34b1 : ((l0_7.length : Int) != 0) = true := bne_iff_ne.mpr c34
                         have c34b2 : ¬ (l0_7 = []) := fun h_ => c34 (by rw [h_]; rfl)
                         obtain rfl := Option.some.inj H
                         have C0_ : True := trivial
                         have S0_ : True := trivial)))
                  | (skip
                     rw [if_neg c33] at H
                     have c33b0 : ((l0_4.length : Int) == 4) = false := beq_eq_false_iff_ne.mpr c33
                     have c33b1 : ((l0_4.length : Int) != 4) = true := bne_iff_ne.mpr c33
                     obtain rfl := Option.some.inj H
                     have C0_ : True := trivial
                     have S0_ : True := trivial)))
              | (skip
                 replace c32 := Bool.eq_false_iff.mpr c32
                 subst c32
                 rw [if_neg (show ¬ (false = true) by decide)] at H
                 obtain rfl := Option.some.inj H
                 have C0_ : True := trivial
                 have S0_ : True := trivial)))
          | (skip
             rw [if_neg c30] at H
             have c30b0 : (a0_0 == 1) = false := beq_eq_false_iff_ne.mpr c30
             have c30b1 : (a0_0 != 1) = true := bne_iff_ne.mpr c30
             by_cases c94 : a0_0 = 2
             all_goals (first
              | (skip
                 rw [if_pos c94] at H
                 have c94b0 : (a0_0 == 2) = true := beq_iff_eq.mpr c94
                 have c94b1 : (a0_0 != 2) = false := bne_eq_false_iff_eq.mpr c94
                 clear c94
                 by_cases c95 : (l0_7.length : Int) ≤ 3
                 all_goals (first
                  | (skip
                     rw [if_pos c95] at H
                     have c95b0 : decide ((l0_7.length : Int) ≤ 3) = true := decide_eq_true c95
                     have c95b1 : decide (l0_7.length ≤ 3) = true := decide_eq_true (by omega)
                     clear c95
                     replace H := Option.bind_eq_some_iff.mp H
                     obtain ⟨tq4, Aq4z, H⟩ := H
                     have Aq4 := Aside0.mk Aq4z
                     clear Aq4z
                     by_cases c97 : tq4 = true
                     all_goals (first
                      | (skip
                         subst c97
                         rw [if_pos rfl] at H
                         by_cases c98 : a0_8 = 0
                         all_goals (first
                          | (skip
                             rw [if_pos c98] at H
                             have c98b0 : (a0_8 == 0) = true := beq_iff_eq.mpr c98
                             have c98b1 : (a0_8 != 0) = false := bne_eq_false_iff_eq.mpr c98
                             clear c98
                             replace H := Option.bind_eq_some_iff.mp H
                             obtain ⟨tq5, Aq5z, H⟩ := H
                             have Aq5 := Aside0.mk Aq5z
                             clear Aq5z
                             by_cases c100 : tq5 = true
                             all_goals (first
                              | (skip
                                 subst c100
                                 rw [if_pos rfl] at H
                                 by_cases c101 : (l0_4.length : Int) = 0
                                 all_goals (first
                                  | (skip
                                     rw [if_pos c101] at H
                                     have c101b0 : ((l0_4.length : Int) == 0) = true := beq_iff_eq.mpr c101
                                     have c101b1 : ((l0_4.length : Int) != 0) = false := bne_eq_false_iff_eq.mpr c101
                                     clear c101
                                     by_cases c102 : a0_5 = 0
                                     all_goals (first
                                      | (skip
                                         rw [if_pos c102] at H
                                         have c102b0 : (a0_5 == 0) = true := beq_iff_eq.mpr c102
                                         have c102b1 : (a0_5 != 0) = false := bne_eq_false_iff_eq.mpr c102
                                         clear c102
                                         obtain rfl := Option.some.inj H
                                         have C0_ : True := trivial
                                         have S0_ : True := trivial)
                                      | (skip
                                         rw [if_neg c102] at H
                                         have c102b0 : (a0_5 == 0) = false := beq_eq_false_iff_ne.mpr c102
                                         have c102b1 : (a0_5 != 0) = true := bne_iff_ne.mpr c102
                                         obtain rfl := Option.some.inj H
                                         have C0_ : True := trivial
                                         have S0_ : True := trivial)))
                                  | (skip
                                     rw [if_neg c101] at H
                                     have c101b0 : ((l0_4.length : Int) == 0) = false := beq_eq_false_iff_ne.mpr c101
                                     have c101b1 : ((l0_4.length : Int) != 0) = true := bne_iff_ne.mpr c101
                                     have c101b2 : ¬ (l0_4 = []) := fun h_ => c101 (by rw [h_]; rfl)
                                     obtain rfl := Option.some.inj H
                                     have C0_ : True := trivial
                                     have S0_ : True := trivial)))
                              | (skip
                                 replace c100 := Bool.eq_false_iff.mpr c100
                                 subst c100
                                 rw [if_neg (show ¬ (false = true) by decide)] at H
                                 obtain rfl := Option.some.inj H
                                 have C0_ : True := trivial
                                 have S0_ : True := trivial)))
                          | (skip
                             rw [if_neg c98] at H
                             have c98b0 : (a0_8 == 0) = false := beq_eq_false_iff_ne.mpr c98
                             have c98b1 : (a0_8 != 0) = true := bne_iff_ne.mpr c98
                             replace H := Option.bind_eq_some_iff.mp H
                             obtain ⟨tq5, Aq5z, H⟩ := H
                             have Aq5 := Aside0.mk Aq5z
                             clear Aq5z
                             by_cases c171 : tq5 = true
                             all_goals (first
                              | (skip
                                 subst c171
                                 rw [if_pos rfl] at H
                                 by_cases c172 : (l0_7.length : Int) = 3
                                 all_goals (first
                                  | (skip
                                     rw [if_pos c172] at H
                                     have c172b0 : ((l0_7.length : Int) == 3) = true := beq_iff_eq.mpr c172
                                     have c172b1 : ((l0_7.length : Int) != 3) = false := bne_eq_false_iff_eq.mpr c172
                                     clear c172
                                     by_cases c173 : (l0_4.length : Int) = 0
                                     all_goals (first
                                      | (skip
                                         rw [if_pos c173] at H
                                         have c173b0 : ((l0_4.length : Int) == 0) = true := beq_iff_eq.mpr c173
                                         have c173b1 : ((l0_4.length : Int) != 0) = false := bne_eq_false_iff_eq.mpr c173
                                         clear c173
                                         by_cases c174 : a0_5 = 0
                                         all_goals (first
                                          | (skip
                                             rw [if_pos c174] at H
                                             have c174b0 : (a0_5 == 0) = true := beq_iff_eq.mpr c174
                                             have c174b1 : (a0_5 != 0) = false := bne_eq_false_iff_eq.mpr c174
                                             clear c174
                                             obtain rfl := Option.some.inj H
                                             have C0_ : True := trivial
                                             have S0_ : True := trivial)
                                          | (skip
                                             rw [if_neg c174] at H
                                             have c174b0 : (a0_5 == 0) = false := beq_eq_false_iff_ne.mpr c174
                                             have c174b1 : (a0_5 != 0) = true := bne_iff_ne.mpr c174
                                             obtain rfl := Option.some.inj H
                                             have C0_ : True := trivial
                                             have S0_ : True := trivial)))
                                      | (skip
                                         rw [if_neg c173] at H
                                         have c173b0 : ((l0_4.length : Int) == 0) = false := beq_eq_false_iff_ne.mpr c173
                                         have c173b1 : ((l0_4.length : Int) != 0) = true := bne_iff_ne.mpr c173
                                         have c173b2 : ¬ (l0_4 = []) := fun h_ => c173 (by rw [h_]; rfl)
                                         obtain rfl := Option.some.inj H
                                         have C0_ : True := trivial
                                         have S0_ : True := trivial)))
                                  | (skip
                                     rw [if_neg c172] at H
                                     have c172b0 : ((l0_7.length : Int) == 3) = false := beq_eq_false_iff_ne.mpr c172
                                     have c172b1 : ((l0_7.length : Int) != 3) = true := bne_iff_ne.mpr c172
                                     obtain rfl := Option.some.inj H
                                     have C0_ : True := trivial
                                     have S0_ : True := trivial)))
                              | (skip
                                 replace c171 := Bool.eq_false_iff.mpr c171
                                 subst c171
                                 rw [if_neg (show ¬ (false = true) by decide)] at H
                                 obtain rfl := Option.some.inj H
                                 have C0_ : True := trivial
                                 have S0_ : True := trivial)))))
                      | (skip
                         replace c97 := Bool.eq_false_iff.mpr c97
                         subst c97
                         rw [if_neg (show ¬ (false = true) by decide)] at H
                         replace H := Option.bind_eq_some_iff.mp H
                         obtain ⟨tq5, Aq5z, H⟩ := H
                         have Aq5 := Aside0.mk Aq5z
                         clear Aq5z
                         by_cases c259 : tq5 = true
                         all_goals (first
                          | (skip
                             subst c259
                             rw [if_pos rfl] at H
                             obtain rfl := Option.some.inj H
                             have C0_ : True := trivial
                             have S0_ : True := trivial)
                          | (skip
                             replace c259 := Bool.eq_false_iff.mpr c259
                             subst c259
                             rw [if_neg (show ¬ (false = true) by decide)] at H
                             obtain rfl := Option.some.inj H
                             have C0_ : True := trivial
                             have S0_ : True := trivial)))))
                  | (skip
                     rw [if_neg c95] at H
                     have c95b0 : decide ((l0_7.length : Int) ≤ 3) = false := decide_eq_false c95
                     have c95b1 : decide (l0_7.length ≤ 3) = false := decide_eq_false (by omega)
                     clear c95
                     replace H := Option.bind_eq_some_iff.mp H
                     obtain ⟨tq5, Aq5z, H⟩ := H
                     have Aq5 := Aside0.mk Aq5z
                     clear Aq5z
                     by_cases c293 : tq5 = true
                     all_goals (first
                      | (skip
                         subst c293
                         rw [if_pos rfl] at H
                         obtain rfl := Option.some.inj H
                         have C0_ : True := trivial
                         have S0_ : True := trivial)
                      | (skip
                         replace c293 := Bool.eq_false_iff.mpr c293
                         subst c293
                         rw [if_neg (show ¬ (false = true) by decide)] at H
                         obtain rfl := Option.some.inj H
                         have C0_ : True := trivial
                         have S0_ : True := trivial)))))
              | (skip
                 rw [if_neg c94] at H
                 have c94b0 : (a0_0 == 2) = false := beq_eq_false_iff_ne.mpr c94
                 have c94b1 : (a0_0 != 2) = true := bne_iff_ne.mpr c94
                 obtain rfl := Option.some.inj H
                 have C0_ : True := trivial
                 have S0_ : True := trivial))))))))
 all_goals (
  first
  | (have _ := C0_
     go_enter Try.func11, Try.ntmps11
     go_wp2_with (first | ((with_reducible refine gate_dst (N := 1) rfl ?_); (try (refine gate_guard (by rfl) ?_; dsimp only)); refine zbx (N := 1) (cs := #[.int .i64 a0_0, .int .i64 a0_1, .int .i64 a0_2, .int .i64 a0_3, .slice A0_4 l0_4.length c0_4, .int .i64 a0_5, .int .i64 a0_6, .slice A0_7 l0_7.length c0_7, .int .i64 a0_8]) (t := 25) ?_; intro gb126 hg wq1 hbox hb; replace HO0_4 := Aside0.mk (Kd.V_below (Kd.V_elderB (by (with_reducible repeat (first | apply Kd.V_alloc | apply Kd.V_drewN | apply Kd.V_drew)); exact HO0_4.out) gb126 (Nat.le_of_eq hg.symm)) hb); have BK126 := Aside0.mk (hbox); have GW126 := Aside0.mk ((by rw [hg]; exact (below_size (zh0 HB.out)) : w.heap.size ≤ gb126)); have GE126 := GW126; replace HB := Aside0.mk (below_step (zh0 HB.out) hb); clear hb hbox hg; obtain ⟨hczq1_0, hczq1_1, hczq1_2, hczq1_3, hczq1_4, hczq1_5, hczq1_6, hczq1_7, hczq1_8⟩ := cells9 BK126.out; obtain ⟨hfzq1_0, hfzq1_1, hfzq1_2, hfzq1_3, hfzq1_4, hfzq1_5, hfzq1_6, hfzq1_7, hfzq1_8⟩ := frozen9 BK126.out) | ((with_reducible refine gate_dst (N := 13) rfl ?_); (try (refine gate_guard (by rfl) ?_; dsimp only)); refine Kd.R_lit (Kd.int .i64) _ 3 ?hg (N := 13) ?hd (xs := ([a0_5, a0_6, a0_8] : List Int)) (inner := [.int .i64 a0_5, .int .i64 a0_6, .int .i64 a0_8]) (ok := fun _ => True) (okp := fun _ => True) ?hr ?hp (fun _ hk => hk) trivial (Below.refl _ _) (Nat.le_refl _) (by simp) ?_; (case hd => rfl); (case hg => rfl); (case hr => first | (go_simp; done) | (go_simp; rfl)); (case hp => exact (Reps.one (show Kd.M (Kd.int .i64) _ _ _ a0_5 [.int .i64 a0_5] from rfl) (Reps.one (show Kd.M (Kd.int .i64) _ _ _ a0_6 [.int .i64 a0_6] from rfl) (Reps.one (show Kd.M (Kd.int .i64) _ _ _ a0_8 [.int .i64 a0_8] from rfl) (Reps.none _ _))))); intro vq13 wq13 hoq13 hb hg_ hnew_; clear hg_ hnew_; (first | rw [← Nyq6.out] at hoq13 | (simp only [Int.reduceToNat] at hoq13; rw [← Nyq6.out] at hoq13)); replace HO0_4 := Aside0.mk (Kd.V_elder' (by (with_reducible repeat (first | apply Kd.V_alloc | apply Kd.V_drewN | apply Kd.V_drew)); exact HO0_4.out) (Kd.R_base hoq13) hb); have HO129 := Aside0.mk (Kd.R_lower (Kd.R_newM (M := fun k_ => (w.heap.size ≤ k_)) hoq13 (below_size (zh1 HB.out GE126.out)) (fun k_ h_ => h_)) (below_size (zh1 HB.out GE126.out))); replace BK126 := Aside0.mk (zB BK126.out hb); replace HB := Aside0.mk (below_step (zh1 HB.out GE126.out) hb); clear hb hoq13; obtain ⟨Aoq13, coq13, eoq13⟩ := Kd.R_slice HO129.out; subst eoq13) | ((with_reducible refine gate_dst (N := 14) rfl ?_); (try (refine gate_guard (by rfl) ?_; dsimp only)); refine Kd.N_lit (Kd.slice 3 (Kd.int .i64)) _ 22 ?hg (N' := 14) ?hd (xs := ([l0_4, yq6] : List (List Int))) (inner := [.slice A0_4 l0_4.length c0_4, .slice Aoq13 yq6.length coq13]) (ok := (fun k_ => (P0_4_ k_ ∨ w.heap.size ≤ k_) ∧ k_ ≠ gb126)) (okp := (fun k_ => (P0_4_ k_ ∨ w.heap.size ≤ k_) ∧ k_ ≠ gb126)) ?hr ?hp (fun _ hk => hk) ((show ∀ k_, wq13.heap.size ≤ k_ → (fun k_ => (P0_4_ k_ ∨ w.heap.size ≤ k_) ∧ k_ ≠ gb126) k_ from fun k_ hk => ⟨(.inr (Nat.le_trans (below_size (zh1 HB.out GE126.out)) hk)), Kd.freshB (g := gb126) (o := .cells #[.int .i64 a0_0, .int .i64 a0_1, .int .i64 a0_2, .int .i64 a0_3, .slice A0_4 l0_4.length c0_4, .int .i64 a0_5, .int .i64 a0_6, .slice A0_7 l0_7.length c0_7, .int .i64 a0_8] 25 (0, 0)) (zb BK126.out) k_ hk⟩) _ (Nat.le_refl _)) (Below.refl _ _) (Nat.le_refl _) (by simp) ?_; (case hd => rfl); (case hg => rfl); (case hr => first | (go_simp; done) | (go_simp; rfl)); (case hp => exact (Reps.one (show Kd.FK (Kd.slice 3 (Kd.int .i64)) _ _ l0_4 [.slice A0_4 l0_4.length c0_4] from (Kd.FK_slice_mk (Kd.V_reads' (Kd.V_mono (ok' := (fun k_ => (P0_4_ k_ ∨ w.heap.size ≤ k_) ∧ k_ ≠ gb126)) (HO0_4.out) (fun k_ hk => ⟨hk.1.1, hk.1.2⟩))).2.1 (Kd.V_F (Kd.V_mono (ok' := (fun k_ => (P0_4_ k_ ∨ w.heap.size ≤ k_) ∧ k_ ≠ gb126)) (HO0_4.out) (fun k_ hk => ⟨hk.1.1, hk.1.2⟩))))) (Reps.one (show Kd.FK (Kd.slice 3 (Kd.int .i64)) _ _ yq6 [.slice Aoq13 yq6.length coq13] from (Kd.FK_slice_mk (Kd.R_reads' (Kd.R_mono (ok' := (fun k_ => (P0_4_ k_ ∨ w.heap.size ≤ k_) ∧ k_ ≠ gb126)) (Kd.R_types (HO129.out) BK126.out (by decide)) (fun k_ hk => ⟨(.inr (hk.1.1)), hk.2⟩))).2.1 (Kd.R_F (Kd.R_mono (ok' := (fun k_ => (P0_4_ k_ ∨ w.heap.size ≤ k_) ∧ k_ ≠ gb126)) (Kd.R_types (HO129.out) BK126.out (by decide)) (fun k_ hk => ⟨(.inr (hk.1.1)), hk.2⟩))))) (Reps.none _ _)))); intro vq14 wq14 hoq14 hb hg_ hnew_; clear hg_ hnew_; (first | rw [← Nyq7.out] at hoq14 | (simp only [Int.reduceToNat] at hoq14; rw [← Nyq7.out] at hoq14)); replace HO0_4 := Aside0.mk (Kd.V_elder' (by (with_reducible repeat (first | apply Kd.V_alloc | apply Kd.V_drewN | apply Kd.V_drew)); exact HO0_4.out) (Kd.N_base hoq14) hb); have HO132 := Aside0.mk (Kd.N_lower hoq14 (below_size (zh1 HB.out GE126.out))); replace BK126 := Aside0.mk (zB BK126.out hb); replace HB := Aside0.mk (below_step (zh1 HB.out GE126.out) hb); (try clear HO129); clear hb hoq14; obtain ⟨Aoq14, coq14, eoq14⟩ := Kd.N_slice HO132.out; subst eoq14) | ((with_reducible refine gate_callee (f := 28) rfl ?_); refine zgl (some 15) Try.func28 #[.slice Aoq14 yq7.length coq14] ?_; (with_reducible refine (sl_Cc.calls k _ _ yq7 tq0 _ ?side1 ?side2 Aq0.out).mono ?_); (case side1 => exact zc ((Kd.N_reads' HO132.out).2.2)); (case side2 => exact (Kd.N_reads' HO132.out).2.1); rintro e wq15 ⟨vq15, rfl, hoq15, hb⟩; refine ⟨_, rfl, ?_⟩; replace HO0_4 := Aside0.mk (Kd.V_elder' (by (with_reducible repeat (first | apply Kd.V_alloc | apply Kd.V_drewN | apply Kd.V_drew)); exact HO0_4.out) (Kd.R_base hoq15) hb); replace HO132 := Aside0.mk (Kd.N_elder' (by (with_reducible repeat (first | apply Kd.N_alloc | apply Kd.N_drewN | apply Kd.N_drew)); exact HO132.out) (Kd.R_base hoq15) hb); have HO135 := Aside0.mk (Kd.R_lower (Kd.R_newM (M := fun k_ => (w.heap.size ≤ k_)) hoq15 (below_size (zh1 HB.out GE126.out)) (fun k_ h_ => h_)) (below_size (zh1 HB.out GE126.out))); replace BK126 := Aside0.mk (zB BK126.out hb); replace HB := Aside0.mk (below_step (zh1 HB.out GE126.out) hb); (try clear hb); (try clear hb2); (try clear hk); (try clear hi); (try clear hoq15); obtain ⟨hczq15_0, hczq15_1, hczq15_2, hczq15_3, hczq15_4, hczq15_5, hczq15_6, hczq15_7, hczq15_8⟩ := cells9 BK126.out; obtain ⟨hfzq15_0, hfzq15_1, hfzq15_2, hfzq15_3, hfzq15_4, hfzq15_5, hfzq15_6, hfzq15_7, hfzq15_8⟩ := frozen9 BK126.out) | ((with_reducible refine gate_callee (f := 22) rfl ?_); refine zgl (some 18) Try.func22 #[.agg #[.int .i64 a0_0, .int .i64 a0_1, .int .i64 a0_2, .int .i64 a0_3, .slice A0_4 l0_4.length c0_4, .int .i64 a0_5, .int .i64 a0_6, .slice A0_7 l0_7.length c0_7, .int .i64 a0_8]] ?_; (with_reducible refine (cards_none.calls k a0_0 a0_1 a0_2 a0_3 _ _ l0_4 a0_5 a0_6 _ _ l0_7 a0_8 _ _ ?side1 ?side2 ?side3 ?side4 Aq1.out).mono ?_); (case side1 => exact zc ((Kd.V_reads' HO0_4.out).2.2)); (case side2 => exact (Kd.V_reads' HO0_4.out).2.1); (case side3 => exact zc (Kd.C_below HR0_7.out HB.out)); (case side4 => exact HC0_7.out); rintro e wq18 ⟨rfl, hb⟩; refine ⟨_, rfl, ?_⟩; replace HO0_4 := Aside0.mk (Kd.V_below (by (with_reducible repeat (first | apply Kd.V_alloc | apply Kd.V_drewN | apply Kd.V_drew)); exact HO0_4.out) hb); replace HO132 := Aside0.mk (Kd.N_below (by (with_reducible repeat (first | apply Kd.N_alloc | apply Kd.N_drewN | apply Kd.N_drew)); exact HO132.out) hb); replace HO135 := Aside0.mk (zR HO135.out hb); replace BK126 := Aside0.mk (zB BK126.out hb); replace HB := Aside0.mk (below_step (zh1 HB.out GE126.out) hb); (try clear hb); (try clear hb2); (try clear hk); (try clear hi); obtain ⟨Aoq18, coq18, eoq18⟩ := Kd.R_slice HO135.out; subst eoq18) | ((with_reducible refine gate_callee (f := 22) rfl ?_); refine zgl (some 18) Try.func22 #[.agg #[.int .i64 a0_0, .int .i64 a0_1, .int .i64 a0_2, .int .i64 a0_3, .slice A0_4 l0_4.length c0_4, .int .i64 a0_5, .int .i64 a0_6, .slice A0_7 l0_7.length c0_7, .int .i64 a0_8]] ?_; (with_reducible refine (cards_none.calls k a0_0 a0_1 a0_2 a0_3 _ _ l0_4 a0_5 a0_6 _ _ l0_7 a0_8 _ _ ?side1 ?side2 ?side3 ?side4 Aq1.out).mono ?_); (case side1 => exact zc ((Kd.V_reads' HO0_4.out).2.2)); (case side2 => exact (Kd.V_reads' HO0_4.out).2.1); (case side3 => exact zc (Kd.C_below HR0_7.out HB.out)); (case side4 => exact HC0_7.out); rintro e wq18 ⟨rfl, hb⟩; refine ⟨_, rfl, ?_⟩; replace HO0_4 := Aside0.mk (Kd.V_below (by (with_reducible repeat (first | apply Kd.V_alloc | apply Kd.V_drewN | apply Kd.V_drew)); exact HO0_4.out) hb); replace HO132 := Aside0.mk (Kd.N_below (by (with_reducible repeat (first | apply Kd.N_alloc | apply Kd.N_drewN | apply Kd.N_drew)); exact HO132.out) hb); replace HO135 := Aside0.mk (zR HO135.out hb); replace BK126 := Aside0.mk (zB BK126.out hb); replace HB := Aside0.mk (below_step (zh1 HB.out GE126.out) hb); (try clear hb); (try clear hb2); (try clear hk); (try clear hi)) | ((with_reducible refine gate_callee (f := 29) rfl ?_); refine zgl (some 21) Try.func29 #[.slice Aoq18 tq0.length coq18, .func (.func 30) #[] #[]] ?_; (with_reducible refine (GOddI.calls _ _ tq0 _ _ ?side1 ?side2 Aq2.out).mono ?_); (case side1 => exact zc ((Kd.R_reads' HO135.out).2.2)); (case side2 => exact (Kd.R_reads' HO135.out).2.1); rintro e w' ⟨rfl, ⟨nd, rfl⟩⟩; refine ⟨_, rfl, ?_⟩; obtain ⟨hczq21_0, hczq21_1, hczq21_2, hczq21_3, hczq21_4, hczq21_5, hczq21_6, hczq21_7, hczq21_8⟩ := cells9 BK126.out; obtain ⟨hfzq21_0, hfzq21_1, hfzq21_2, hfzq21_3, hfzq21_4, hfzq21_5, hfzq21_6, hfzq21_7, hfzq21_8⟩ := frozen9 BK126.out) | ((with_reducible refine gate_callee (f := 29) rfl ?_); refine zgl (some 21) Try.func29 #[.slice Aoq18 tq0.length coq18, .func (.func 30) #[] #[]] ?_; (with_reducible refine (GOddI.calls _ _ tq0 _ _ ?side1 ?side2 Aq2.out).mono ?_); (case side1 => exact zc ((Kd.R_reads' HO135.out).2.2)); (case side2 => exact (Kd.R_reads' HO135.out).2.1); rintro e w' ⟨rfl, ⟨nd, rfl⟩⟩; refine ⟨_, rfl, ?_⟩) | ((with_reducible refine gate_callee (f := 31) rfl ?_); refine zgl (some 27) Try.func31 #[.agg #[.int .i64 a0_0, .int .i64 a0_1, .int .i64 a0_2, .int .i64 a0_3, .slice A0_4 l0_4.length c0_4, .int .i64 a0_5, .int .i64 a0_6, .slice A0_7 l0_7.length c0_7, .int .i64 a0_8], .int .i64 76] ?_; (with_reducible refine (cards_head.calls a0_0 a0_1 a0_2 a0_3 _ _ l0_4 a0_5 a0_6 _ _ l0_7 a0_8 76 _ _ ?side1 ?side2 ?side3 ?side4 Aq3.out).mono ?_); (case side1 => exact zc ((Kd.V_reads' HO0_4.out).2.2)); (case side2 => exact (Kd.V_reads' HO0_4.out).2.1); (case side3 => exact zc (Kd.C_below HR0_7.out (zh1 HB.out GE126.out))); (case side4 => exact HC0_7.out); rintro e wq27 ⟨rfl, hb⟩; refine ⟨_, rfl, ?_⟩; replace HO0_4 := Aside0.mk (Kd.V_below (by (with_reducible repeat (first | apply Kd.V_alloc | apply Kd.V_drewN | apply Kd.V_drew)); exact HO0_4.out) hb); replace HO132 := Aside0.mk (Kd.N_below (by (with_reducible repeat (first | apply Kd.N_alloc | apply Kd.N_drewN | apply Kd.N_drew)); exact HO132.out) hb); replace HO135 := Aside0.mk (zR HO135.out hb); replace BK126 := Aside0.mk (zB BK126.out hb); replace HB := Aside0.mk (below_step (zh1 HB.out GE126.out) hb); (try clear hb); (try clear hb2); (try clear hk); (try clear hi); obtain ⟨hczq27_0, hczq27_1, hczq27_2, hczq27_3, hczq27_4, hczq27_5, hczq27_6, hczq27_7, hczq27_8⟩ := cells9 BK126.out; obtain ⟨hfzq27_0, hfzq27_1, hfzq27_2, hfzq27_3, hfzq27_4, hfzq27_5, hfzq27_6, hfzq27_7, hfzq27_8⟩ := frozen9 BK126.out) | ((with_reducible refine gate_callee (f := 31) rfl ?_); refine zgl (some 27) Try.func31 #[.agg #[.int .i64 a0_0, .int .i64 a0_1, .int .i64 a0_2, .int .i64 a0_3, .slice A0_4 l0_4.length c0_4, .int .i64 a0_5, .int .i64 a0_6, .slice A0_7 l0_7.length c0_7, .int .i64 a0_8], .int .i64 76] ?_; (with_reducible refine (cards_head.calls a0_0 a0_1 a0_2 a0_3 _ _ l0_4 a0_5 a0_6 _ _ l0_7 a0_8 76 _ _ ?side1 ?side2 ?side3 ?side4 Aq3.out).mono ?_); (case side1 => exact zc ((Kd.V_reads' HO0_4.out).2.2)); (case side2 => exact (Kd.V_reads' HO0_4.out).2.1); (case side3 => exact zc (Kd.C_below HR0_7.out (zh1 HB.out GE126.out))); (case side4 => exact HC0_7.out); rintro e wq27 ⟨rfl, hb⟩; refine ⟨_, rfl, ?_⟩; replace HO0_4 := Aside0.mk (Kd.V_below (by (with_reducible repeat (first | apply Kd.V_alloc | apply Kd.V_drewN | apply Kd.V_drew)); exact HO0_4.out) hb); replace HO132 := Aside0.mk (Kd.N_below (by (with_reducible repeat (first | apply Kd.N_alloc | apply Kd.N_drewN | apply Kd.N_drew)); exact HO132.out) hb); replace HO135 := Aside0.mk (zR HO135.out hb); replace BK126 := Aside0.mk (zB BK126.out hb); replace HB := Aside0.mk (below_step (zh1 HB.out GE126.out) hb); (try clear hb); (try clear hb2); (try clear hk); (try clear hi)) | (go_at_call 32; (with_reducible refine (spans_Right.calls k _ _ l0_7 _ _ ?side1 ?side2 Aq4.out).mono ?_); (case side1 => exact zc (Kd.C_below HR0_7.out (zh1 HB.out GE126.out))); (case side2 => exact HC0_7.out); rintro e wqgo_at_call32with_red ⟨rfl, hb⟩; replace HO0_4 := Aside0.mk (Kd.V_below (by (with_reducible repeat (first | apply Kd.V_alloc | apply Kd.V_drewN | apply Kd.V_drew)); exact HO0_4.out) hb); replace HO132 := Aside0.mk (Kd.N_below (by (with_reducible repeat (first | apply Kd.N_alloc | apply Kd.N_drewN | apply Kd.N_drew)); exact HO132.out) hb); replace HO135 := Aside0.mk (zR HO135.out hb); replace BK126 := Aside0.mk (zB BK126.out hb); replace HB := Aside0.mk (below_step (zh1 HB.out GE126.out) hb); (try clear hb); (try clear hb2); (try clear hk); (try clear hi); obtain ⟨hczqgo_at_call32with_red_0, hczqgo_at_call32with_red_1, hczqgo_at_call32with_red_2, hczqgo_at_call32with_red_3, hczqgo_at_call32with_red_4, hczqgo_at_call32with_red_5, hczqgo_at_call32with_red_6, hczqgo_at_call32with_red_7, hczqgo_at_call32with_red_8⟩ := cells9 BK126.out; obtain ⟨hfzqgo_at_call32with_red_0, hfzqgo_at_call32with_red_1, hfzqgo_at_call32with_red_2, hfzqgo_at_call32with_red_3, hfzqgo_at_call32with_red_4, hfzqgo_at_call32with_red_5, hfzqgo_at_call32with_red_6, hfzqgo_at_call32with_red_7, hfzqgo_at_call32with_red_8⟩ := frozen9 BK126.out) | ((with_reducible refine gate_callee (f := 31) rfl ?_); refine zgl (some 70) Try.func31 #[.agg #[.int .i64 a0_0, .int .i64 a0_1, .int .i64 a0_2, .int .i64 a0_3, .slice A0_4 l0_4.length c0_4, .int .i64 a0_5, .int .i64 a0_6, .slice A0_7 l0_7.length c0_7, .int .i64 a0_8], .int .i64 120] ?_; (with_reducible refine (cards_head.calls a0_0 a0_1 a0_2 a0_3 _ _ l0_4 a0_5 a0_6 _ _ l0_7 a0_8 120 _ _ ?side1 ?side2 ?side3 ?side4 Aq5.out).mono ?_); (case side1 => exact zc ((Kd.V_reads' HO0_4.out).2.2)); (case side2 => exact (Kd.V_reads' HO0_4.out).2.1); (case side3 => exact zc (Kd.C_below HR0_7.out HB.out)); (case side4 => exact HC0_7.out); rintro e wq70 ⟨rfl, hb⟩; refine ⟨_, rfl, ?_⟩; replace HO0_4 := Aside0.mk (Kd.V_below (by (with_reducible repeat (first | apply Kd.V_alloc | apply Kd.V_drewN | apply Kd.V_drew)); exact HO0_4.out) hb); replace HO132 := Aside0.mk (Kd.N_below (by (with_reducible repeat (first | apply Kd.N_alloc | apply Kd.N_drewN | apply Kd.N_drew)); exact HO132.out) hb); replace HO135 := Aside0.mk (zR HO135.out hb); replace BK126 := Aside0.mk (zB BK126.out hb); replace HB := Aside0.mk (below_step (zh1 HB.out GE126.out) hb); (try clear hb); (try clear hb2); (try clear hk); (try clear hi); obtain ⟨hczq70_0, hczq70_1, hczq70_2, hczq70_3, hczq70_4, hczq70_5, hczq70_6, hczq70_7, hczq70_8⟩ := cells9 BK126.out; obtain ⟨hfzq70_0, hfzq70_1, hfzq70_2, hfzq70_3, hfzq70_4, hfzq70_5, hfzq70_6, hfzq70_7, hfzq70_8⟩ := frozen9 BK126.out) | ((with_reducible refine gate_callee (f := 31) rfl ?_); refine zgl (some 70) Try.func31 #[.agg #[.int .i64 a0_0, .int .i64 a0_1, .int .i64 a0_2, .int .i64 a0_3, .slice A0_4 l0_4.length c0_4, .int .i64 a0_5, .int .i64 a0_6, .slice A0_7 l0_7.length c0_7, .int .i64 a0_8], .int .i64 120] ?_; (with_reducible refine (cards_head.calls a0_0 a0_1 a0_2 a0_3 _ _ l0_4 a0_5 a0_6 _ _ l0_7 a0_8 120 _ _ ?side1 ?side2 ?side3 ?side4 Aq5.out).mono ?_); (case side1 => exact zc ((Kd.V_reads' HO0_4.out).2.2)); (case side2 => exact (Kd.V_reads' HO0_4.out).2.1); (case side3 => exact zc (Kd.C_below HR0_7.out (zh1 HB.out GE126.out))); (case side4 => exact HC0_7.out); rintro e wq70 ⟨rfl, hb⟩; refine ⟨_, rfl, ?_⟩; replace HO0_4 := Aside0.mk (Kd.V_below (by (with_reducible repeat (first | apply Kd.V_alloc | apply Kd.V_drewN | apply Kd.V_drew)); exact HO0_4.out) hb); replace HO132 := Aside0.mk (Kd.N_below (by (with_reducible repeat (first | apply Kd.N_alloc | apply Kd.N_drewN | apply Kd.N_drew)); exact HO132.out) hb); replace HO135 := Aside0.mk (zR HO135.out hb); replace BK126 := Aside0.mk (zB BK126.out hb); replace HB := Aside0.mk (below_step (zh1 HB.out GE126.out) hb); (try clear hb); (try clear hb2); (try clear hk); (try clear hi)) | ((with_reducible refine gate_callee (f := 31) rfl ?_); refine zgl (some 70) Try.func31 #[.agg #[.int .i64 a0_0, .int .i64 a0_1, .int .i64 a0_2, .int .i64 a0_3, .slice A0_4 l0_4.length c0_4, .int .i64 a0_5, .int .i64 a0_6, .slice A0_7 l0_7.length c0_7, .int .i64 a0_8], .int .i64 120] ?_; (with_reducible refine (cards_head.calls a0_0 a0_1 a0_2 a0_3 _ _ l0_4 a0_5 a0_6 _ _ l0_7 a0_8 120 _ _ ?side1 ?side2 ?side3 ?side4 Aq5.out).mono ?_); (case side1 => exact zc ((Kd.V_reads' HO0_4.out).2.2)); (case side2 => exact (Kd.V_reads' HO0_4.out).2.1); (case side3 => exact zc (Kd.C_below HR0_7.out HB.out)); (case side4 => exact HC0_7.out); rintro e wq70 ⟨rfl, hb⟩; refine ⟨_, rfl, ?_⟩; replace HO0_4 := Aside0.mk (Kd.V_below (by (with_reducible repeat (first | apply Kd.V_alloc | apply Kd.V_drewN | apply Kd.V_drew)); exact HO0_4.out) hb); replace HO132 := Aside0.mk (Kd.N_below (by (with_reducible repeat (first | apply Kd.N_alloc | apply Kd.N_drewN | apply Kd.N_drew)); exact HO132.out) hb); replace HO135 := Aside0.mk (zR HO135.out hb); replace BK126 := Aside0.mk (zB BK126.out hb); replace HB := Aside0.mk (below_step (zh1 HB.out GE126.out) hb); (try clear hb); (try clear hb2); (try clear hk); (try clear hi)))
     go_ret
     exact ⟨ze, zh1 HB.out GE126.out⟩))

/-! ### mould_fits: function 44 -/
def mould_fits.j0 : Nat → ByteArray → Int → Bool → Option (Int)
 | 0, _, _, _ => none
 | k + 1, x0, x1, x5 => if x5 = true then (some 1) else (if (x0.size : Int) > x1 then (some 3) else (some 0))
def mould_fits.f (k : Nat) (a0 : ByteArray) (a1 : Int) : Option (Int) := if a1 < 0 then (mould_fits.j0 k a0 a1 true) else (mould_fits.j0 k a0 a1 (decide (a1 > 1000)))
theorem mould_fits.mono_l : ∀ k, (∀ y0 y1 y2, LeO (mould_fits.j0 k y0 y1 y2) (mould_fits.j0 (k + 1) y0 y1 y2))
 | 0 => fun _ _ _ r h => by simp [mould_fits.j0] at h
 | k + 1 => by
   have ih0 := mould_fits.mono_l k
   · intro y0 y1 y2
     unfold mould_fits.j0
     repeat' first
     | (with_reducible exact ih0 _ _ _)
     | (with_reducible exact LeO.refl _)
     | (with_reducible exact LeO.none _)
     | (with_reducible refine LeO.ite ?_ ?_)
     | (with_reducible refine LeO.bind ?_ (fun _ => ?_))
     | exact ih0 _ _ _
     | exact LeO.none _
     | refine LeO.ite ?_ ?_
     | refine LeO.bind ?_ (fun _ => ?_)
theorem mould_fits.mono : ∀ a0 a1 k, LeO (mould_fits.f k a0 a1) (mould_fits.f (k + 1) a0 a1) := by
 intro a0 a1 k
 have ih0 := mould_fits.mono_l k
 unfold mould_fits.f
 repeat' first
  | (with_reducible exact ih0 _ _ _)
  | (with_reducible exact LeO.refl _)
  | (with_reducible exact LeO.none _)
  | (with_reducible refine LeO.ite ?_ ?_)
  | (with_reducible refine LeO.bind ?_ (fun _ => ?_))
  | exact ih0 _ _ _
  | exact LeO.none _
  | refine LeO.ite ?_ ?_
  | refine LeO.bind ?_ (fun _ => ?_)
set_option maxHeartbeats 8000000 in
set_option maxRecDepth 100000 in
theorem mould_fits.calls (k : Nat) (a0 : ByteArray) (a1 : Int) (r : Int) (w : World) (h : mould_fits.f k a0 a1 = some r) :
 Calls Try.prog 44 #[.string a0, .int .i64 a1] w fun e w' => e = .returned (.int .i64 r) ∧ Drawn0 w w' := by
 have H : (if a1 < 0 then (mould_fits.j0 k a0 a1 true) else (mould_fits.j0 k a0 a1 (decide (a1 > 1000)))) = some r := h
 clear h
 have HC3 := Aside0.mk H
 clear H
 go_enter Try.func44, Try.ntmps44
 go_upto_region 1 with (fail)
 go_cut [5] (fun v5 wc => ∃ (kq : Nat) (x5_2 : Bool), v5 = .bool x5_2 ∧ Aside0 (mould_fits.j0 kq a0 a1 x5_2 = some r) ∧ Aside0 (kq ≤ k) ∧ Drawn0 w wc)
 case first =>
  have H := HC3.out
  clear HC3
  by_cases c4 : a1 < 0
  · rw [if_pos c4] at H
    have c4b0 : decide (a1 < 0) = true := decide_eq_true c4
    clear c4
    (first | rw [c4b0] | (simp only [i64_w, i32_w]; rw [c4b0]) | skip)
    have H' := Aside0.mk H
    clear H
    go_wp2
    go_meet
    case rel => exact ⟨_, (true), (zs), H', ⟨zl⟩, by repeat (first | exact Drawn0.refl _ | apply Drawn0.step)⟩
  · rw [if_neg c4] at H
    have c4b0 : decide (a1 < 0) = false := decide_eq_false c4
    clear c4
    (first | rw [c4b0] | (simp only [i64_w, i32_w]; rw [c4b0]) | skip)
    have H' := Aside0.mk H
    clear H
    go_wp2
    go_meet
    case rel => exact ⟨_, (decide (a1 > 1000)), (zs), H', ⟨zl⟩, by repeat (first | exact Drawn0.refl _ | apply Drawn0.step)⟩
 case rest =>
  clear HC3; (try clear p2)
  (try clear c4); (try clear c4b0)
  obtain ⟨kq, x5_2, rfl, HA, HJ2, ⟨mc2, rfl⟩⟩ := hcut
  cases kq with
  | zero => exact absurd HA.out (by simp [mould_fits.j0])
  | succ kj2 =>
    have H := HA.out
    clear HA
    simp only [mould_fits.j0] at H
    by_cases c5 : x5_2 = true
    · subst c5
      have H1 : (some 1) = some r := by rw [if_pos rfl] at H; exact H
      clear H
      have H := H1
      clear H1
      obtain rfl := Option.some.inj H
      go_wp2
      go_ret
      exact ⟨by first | rfl | (simp; done) | (simp [*]; done), by repeat (first | exact Drawn0.refl _ | apply Drawn0.step)⟩
    · replace c5 := Bool.eq_false_iff.mpr c5
      subst c5
      have H1 : (if (a0.size : Int) > a1 then (some 3) else (some 0)) = some r := by rw [if_neg (show ¬ (false = true) by decide)] at H; exact H
      clear H
      have H := H1
      clear H1
      by_cases c6 : (a0.size : Int) > a1
      · rw [if_pos c6] at H
        have c6b0 : decide (a1 < (a0.size : Int)) = true := decide_eq_true c6
        clear c6
        obtain rfl := Option.some.inj H
        go_wp2
        go_ret
        exact ⟨by first | rfl | (simp; done) | (simp [*]; done), by repeat (first | exact Drawn0.refl _ | apply Drawn0.step)⟩
      · rw [if_neg c6] at H
        have c6b0 : decide (a1 < (a0.size : Int)) = false := decide_eq_false c6
        clear c6
        obtain rfl := Option.some.inj H
        go_wp2
        go_ret
        exact ⟨by first | rfl | (simp; done) | (simp [*]; done), by repeat (first | exact Drawn0.refl _ | apply Drawn0.step)⟩

/-! ### strings_Repeat: function 45 -/
def strings_Repeat.f (a0 : ByteArray) (a1 : Int) : Option (ByteArray) := if 0 ≤ a1 then (if a1.toNat ≤ 9223372036854775807 then (if a0.size * a1.toNat ≤ 140737488355328 then (some (⟨(Lib.repeatL a0.data.toList a1.toNat).toArray⟩ : ByteArray)) else (none)) else (none)) else (none)
theorem strings_Repeat.calls (a0 : ByteArray) (a1 : Int) (r : ByteArray) (w : World) (h : strings_Repeat.f a0 a1 = some r) :
 Calls Try.prog 45 #[.string a0, .int .i64 a1] w fun e w' => e = .returned (.string r) ∧ Below w.heap.size w w' := by
 unfold strings_Repeat.f at h
 split at h
 · rename_i h1
   split at h
   · rename_i h2
     split at h
     · rename_i h3
       obtain rfl := Option.some.inj h
       obtain ⟨n, rfl⟩ := Int.eq_ofNat_of_zero_le h1
       exact Go.Proofs.Try.strings_Repeat a0 n w h2 h3
     · cases h
   · cases h
 · cases h
/-! ### mould_Pad: function 23 -/
def mould_Pad.f (k : Nat) (a0 : ByteArray) (a1 : Int) : Option (ByteArray × Int) := (mould_fits.f k a0 a1).bind fun t144 => (if t144 = 0 then ((strings_Repeat.f (⟨#[0]⟩ : ByteArray) (wrap64 (a1 - (a0.size : Int)))).bind fun t145 => (if a0.size + t145.size ≤ 9223372036854775807 then (some (a0 ++ t145, 0)) else (none))) else (some ((⟨#[]⟩ : ByteArray), t144)))
theorem mould_Pad.mono : ∀ a0 a1 k, LeO (mould_Pad.f k a0 a1) (mould_Pad.f (k + 1) a0 a1) := by
 intro a0 a1 k
 unfold mould_Pad.f
 repeat' first
  | (with_reducible exact mould_fits.mono _ _ _)
  | (with_reducible exact LeO.refl _)
  | (with_reducible exact LeO.none _)
  | (with_reducible refine LeO.ite ?_ ?_)
  | (with_reducible refine LeO.bind ?_ (fun _ => ?_))
  | exact mould_fits.mono _ _ _
  | exact LeO.none _
  | refine LeO.ite ?_ ?_
  | refine LeO.bind ?_ (fun _ => ?_)
set_option maxHeartbeats 8000000 in
set_option maxRecDepth 100000 in
theorem mould_Pad.calls (k : Nat) (a0 : ByteArray) (a1 : Int) (r1 : ByteArray) (r2 : Int) (w : World) (h : mould_Pad.f k a0 a1 = some (r1, r2)) :
 Calls Try.prog 23 #[.string a0, .int .i64 a1] w fun e w' => e = .returned (.tuple #[.string r1, .int .i64 r2]) ∧ Below w.heap.size w w' := by
 have HB := Aside0.mk (Below.refl w.heap.size w)
 have H : ((mould_fits.f k a0 a1).bind fun t144 => (if t144 = 0 then ((strings_Repeat.f (⟨#[0]⟩ : ByteArray) (wrap64 (a1 - (a0.size : Int)))).bind fun t145 => (if a0.size + t145.size ≤ 9223372036854775807 then (some (a0 ++ t145, 0)) else (none))) else (some ((⟨#[]⟩ : ByteArray), t144)))) = some (r1, r2) := h
 clear h
 replace H := Option.bind_eq_some_iff.mp H
 obtain ⟨t144, A30, H⟩ := H
 replace H : (if t144 = 0 then ((strings_Repeat.f (⟨#[0]⟩ : ByteArray) (wrap64 (a1 - (a0.size : Int)))).bind fun t145 => (if a0.size + t145.size ≤ 9223372036854775807 then (some (a0 ++ t145, 0)) else (none))) else (some ((⟨#[]⟩ : ByteArray), t144))) = some (r1, r2) := H
 have A3 := Aside0.mk A30
 clear A30
 by_cases c4 : t144 = 0
 · rw [if_pos c4] at H
   have c4b0 : (t144 == 0) = true := beq_iff_eq.mpr c4
   have c4b1 : (t144 != 0) = false := bne_eq_false_iff_eq.mpr c4
   clear c4
   replace H := Option.bind_eq_some_iff.mp H
   obtain ⟨t145, A50, H⟩ := H
   replace H : (if a0.size + t145.size ≤ 9223372036854775807 then (some (a0 ++ t145, 0)) else (none)) = some (r1, r2) := H
   have A5 := Aside0.mk A50
   clear A50
   by_cases c6 : a0.size + t145.size ≤ 9223372036854775807
   · rw [if_pos c6] at H
     have c6b0 := eq_true c6
     have c6b1 : decide (a0.size + t145.size ≤ 9223372036854775807) = true := decide_eq_true c6
     try have c6b2 : (9223372036854775807 < a0.size + t145.size) = False := eq_false (Nat.not_lt.2 c6)
     simp only [Option.some.injEq, Prod.mk.injEq] at H
     obtain ⟨rfl, rfl⟩ := H
     go_enter Try.func23, Try.ntmps23
     go_wp2_with (first | ((with_reducible refine gate_callee (f := 44) rfl ?_); refine zgl (some 9) Try.func44 #[.string a0, .int .i64 a1] ?_; (with_reducible refine (mould_fits.calls k a0 a1 t144 _ A3.out).mono ?_); rintro e w' ⟨rfl, ⟨nd, rfl⟩⟩; refine ⟨_, rfl, ?_⟩) | ((with_reducible refine gate_callee (f := 45) rfl ?_); refine zgl (some 18) Try.func45 #[.string (⟨#[0]⟩ : ByteArray), .int .i64 (wrap64 (a1 - (a0.size : Int)))] ?_; (with_reducible refine (strings_Repeat.calls (⟨#[0]⟩ : ByteArray) (wrap64 (a1 - (a0.size : Int))) t145 _ A5.out).mono ?_); rintro e w7 ⟨rfl, hb⟩; refine ⟨_, rfl, ?_⟩; replace HB := Aside0.mk (below_step (zh0 HB.out) hb); (try clear hb); (try clear hb2); (try clear hk); (try clear hi)))
     go_ret2
     exact ⟨ze, zh0 HB.out⟩
   · rw [if_neg c6] at H
     exact absurd H (by simp)
 · rw [if_neg c4] at H
   have c4b0 : (t144 == 0) = false := beq_eq_false_iff_ne.mpr c4
   have c4b1 : (t144 != 0) = true := bne_iff_ne.mpr c4
   simp only [Option.some.injEq, Prod.mk.injEq] at H
   obtain ⟨rfl, rfl⟩ := H
   go_enter Try.func23, Try.ntmps23
   go_wp2_with (first | ((with_reducible refine gate_callee (f := 44) rfl ?_); refine zgl (some 9) Try.func44 #[.string a0, .int .i64 a1] ?_; (with_reducible refine (mould_fits.calls k a0 a1 t144 _ A3.out).mono ?_); rintro e w' ⟨rfl, ⟨nd, rfl⟩⟩; refine ⟨_, rfl, ?_⟩))
   go_ret2
   exact ⟨ze, zh0 HB.out⟩

/-! ### mould_Size: function 46 -/
def mould_Size.l0 : Nat → Int → List Int → Int → Int → Option (Int)
 | 0, _, _, _, _ => none
 | k + 1, x3, x6, x7, x8 => if x8 < x7 then (if 0 ≤ x8 then (if x8 < (x6.length : Int) then (if (rd x6 x8) = 1 then (mould_Size.l0 k (wrap64 (x3 + (rd x6 x8))) x6 x7 (wrap64 (x8 + 1))) else (if (rd x6 x8) = 2 then (mould_Size.l0 k (wrap64 (x3 + (rd x6 x8))) x6 x7 (wrap64 (x8 + 1))) else (if (rd x6 x8) = 4 then (mould_Size.l0 k (wrap64 (x3 + (rd x6 x8))) x6 x7 (wrap64 (x8 + 1))) else (some (-1))))) else (none)) else (none)) else (some x3)
def mould_Size.f (k : Nat) (l0 : List Int) : Option (Int) := mould_Size.l0 k 0 l0 (l0.length : Int) 0
theorem mould_Size.mono_l : ∀ k, (∀ y0 y1 y2 y3, LeO (mould_Size.l0 k y0 y1 y2 y3) (mould_Size.l0 (k + 1) y0 y1 y2 y3))
 | 0 => fun _ _ _ _ r h => by simp [mould_Size.l0] at h
 | k + 1 => by
   have ih0 := mould_Size.mono_l k
   · intro y0 y1 y2 y3
     unfold mould_Size.l0
     repeat' first
     | (with_reducible exact ih0 _ _ _ _)
     | (with_reducible exact LeO.refl _)
     | (with_reducible exact LeO.none _)
     | (with_reducible refine LeO.ite ?_ ?_)
     | (with_reducible refine LeO.bind ?_ (fun _ => ?_))
     | exact ih0 _ _ _ _
     | exact LeO.none _
     | refine LeO.ite ?_ ?_
     | refine LeO.bind ?_ (fun _ => ?_)
theorem mould_Size.mono : ∀ a0 k, LeO (mould_Size.f k a0) (mould_Size.f (k + 1) a0) := by
 intro a0 k
 have ih0 := mould_Size.mono_l k
 unfold mould_Size.f
 repeat' first
  | (with_reducible exact ih0 _ _ _ _)
  | (with_reducible exact LeO.refl _)
  | (with_reducible exact LeO.none _)
  | (with_reducible refine LeO.ite ?_ ?_)
  | (with_reducible refine LeO.bind ?_ (fun _ => ?_))
  | exact ih0 _ _ _ _
  | exact LeO.none _
  | refine LeO.ite ?_ ?_
  | refine LeO.bind ?_ (fun _ => ?_)
set_option maxHeartbeats 8000000 in
set_option maxRecDepth 100000 in
theorem mould_Size.calls (k : Nat) (A0 : Option Addr) (c0 : Nat) (l0 : List Int) (r : Int) (w : World) (hr0 : Kd.C (Kd.int .i64) w A0 l0.length l0) (hc0 : l0.length ≤ c0) (h : mould_Size.f k l0 = some r) :
 Calls Try.prog 46 #[.slice A0 l0.length c0] w fun e w' => e = .returned (.int .i64 r) ∧ Drawn0 w w' := by
 have HR0 := Aside0.mk hr0
 have HC0 := Aside0.mk hc0
 clear hr0 hc0
 have H : (mould_Size.l0 k 0 l0 (l0.length : Int) 0) = some r := h
 clear h
 have H' := Aside0.mk H
 clear H
 go_enter Try.func46, Try.ntmps46
 go_wp2
 go_loopg [3, 8] k (fun kq v3 v8 w' => ∃ (x3_1 : Int) (x8_1 : Int), v3 = .int .i64 x3_1 ∧ v8 = .int .i64 x8_1 ∧ Aside0 (mould_Size.l0 kq x3_1 l0 (l0.length : Int) x8_1 = some r) ∧ Aside0 (kq ≤ k) ∧ Drawn0 w w')
 case atStart => exact ⟨(0), (0), (zs), (zs), H', ⟨Nat.le_refl _⟩, by repeat (first | exact Drawn0.refl _ | apply Drawn0.step)⟩
 case round =>
  clear H'
  obtain ⟨x3_1, x8_1, rfl, rfl, HA, HK1, ⟨m1, rfl⟩⟩ := hrel
  cases gk with
  | zero => exact absurd HA.out (by simp [mould_Size.l0])
  | succ k1 =>
    have H := HA.out
    clear HA
    simp only [mould_Size.l0] at H
    by_cases c2 : x8_1 < (l0.length : Int)
    · rw [if_pos c2] at H
      have c2b0 : decide (x8_1 < (l0.length : Int)) = true := decide_eq_true c2
      clear c2
      by_cases c3 : 0 ≤ x8_1
      · rw [if_pos c3] at H
        have c3b0 : decide (0 ≤ x8_1) = true := decide_eq_true c3
        clear c3
        by_cases c4 : x8_1 < (l0.length : Int)
        · rw [if_pos c4] at H
          have c4b0 : decide (x8_1 < (l0.length : Int)) = true := decide_eq_true c4
          clear c4
          by_cases c5 : (rd l0 x8_1) = 1
          · rw [if_pos c5] at H
            have c5b0 : ((rd l0 x8_1) == 1) = true := beq_iff_eq.mpr c5
            have c5b1 : ((rd l0 x8_1) != 1) = false := bne_eq_false_iff_eq.mpr c5
            clear c5
            have H' := Aside0.mk H
            clear H
            have p146 : 0 ≤ (x8_1 : Int) := zd
            have q146 : x8_1 < (l0.length : Int) := zd
            obtain ⟨ad146, e146, hx146_0⟩ := Kd.at_int HR0.out x8_1 p146 q146
            cases e146
            replace p146 := eq_true p146
            replace q146 := eq_true q146
            go_wp2
            go_roundg k1
            case measure => have := HK1.out; omega
            case rel => exact ⟨(wrap64 (x3_1 + (rd l0 x8_1))), (wrap64 (x8_1 + 1)), (zs), (zs), H', ⟨by have := HK1.out; omega⟩, by repeat (first | exact Drawn0.refl _ | apply Drawn0.step)⟩
          · rw [if_neg c5] at H
            have c5b0 : ((rd l0 x8_1) == 1) = false := beq_eq_false_iff_ne.mpr c5
            have c5b1 : ((rd l0 x8_1) != 1) = true := bne_iff_ne.mpr c5
            by_cases c6 : (rd l0 x8_1) = 2
            · rw [if_pos c6] at H
              have c6b0 : ((rd l0 x8_1) == 2) = true := beq_iff_eq.mpr c6
              have c6b1 : ((rd l0 x8_1) != 2) = false := bne_eq_false_iff_eq.mpr c6
              clear c6
              have H' := Aside0.mk H
              clear H
              have p146 : 0 ≤ (x8_1 : Int) := zd
              have q146 : x8_1 < (l0.length : Int) := zd
              obtain ⟨ad146, e146, hx146_0⟩ := Kd.at_int HR0.out x8_1 p146 q146
              cases e146
              replace p146 := eq_true p146
              replace q146 := eq_true q146
              go_wp2
              go_roundg k1
              case measure => have := HK1.out; omega
              case rel => exact ⟨(wrap64 (x3_1 + (rd l0 x8_1))), (wrap64 (x8_1 + 1)), (zs), (zs), H', ⟨by have := HK1.out; omega⟩, by repeat (first | exact Drawn0.refl _ | apply Drawn0.step)⟩
            · rw [if_neg c6] at H
              have c6b0 : ((rd l0 x8_1) == 2) = false := beq_eq_false_iff_ne.mpr c6
              have c6b1 : ((rd l0 x8_1) != 2) = true := bne_iff_ne.mpr c6
              by_cases c7 : (rd l0 x8_1) = 4
              · rw [if_pos c7] at H
                have c7b0 : ((rd l0 x8_1) == 4) = true := beq_iff_eq.mpr c7
                have c7b1 : ((rd l0 x8_1) != 4) = false := bne_eq_false_iff_eq.mpr c7
                clear c7
                have H' := Aside0.mk H
                clear H
                have p146 : 0 ≤ (x8_1 : Int) := zd
                have q146 : x8_1 < (l0.length : Int) := zd
                obtain ⟨ad146, e146, hx146_0⟩ := Kd.at_int HR0.out x8_1 p146 q146
                cases e146
                replace p146 := eq_true p146
                replace q146 := eq_true q146
                go_wp2
                go_roundg k1
                case measure => have := HK1.out; omega
                case rel => exact ⟨(wrap64 (x3_1 + (rd l0 x8_1))), (wrap64 (x8_1 + 1)), (zs), (zs), H', ⟨by have := HK1.out; omega⟩, by repeat (first | exact Drawn0.refl _ | apply Drawn0.step)⟩
              · rw [if_neg c7] at H
                have c7b0 : ((rd l0 x8_1) == 4) = false := beq_eq_false_iff_ne.mpr c7
                have c7b1 : ((rd l0 x8_1) != 4) = true := bne_iff_ne.mpr c7
                obtain rfl := Option.some.inj H
                have p146 : 0 ≤ (x8_1 : Int) := zd
                have q146 : x8_1 < (l0.length : Int) := zd
                obtain ⟨ad146, e146, hx146_0⟩ := Kd.at_int HR0.out x8_1 p146 q146
                cases e146
                replace p146 := eq_true p146
                replace q146 := eq_true q146
                go_wp2
                go_ret
                exact ⟨by first | rfl | (simp; done) | (simp [*]; done), by repeat (first | exact Drawn0.refl _ | apply Drawn0.step)⟩
        · rw [if_neg c4] at H
          exact absurd H (by simp)
      · rw [if_neg c3] at H
        exact absurd H (by simp)
    · rw [if_neg c2] at H
      have c2b0 : decide (x8_1 < (l0.length : Int)) = false := decide_eq_false c2
      clear c2
      obtain rfl := Option.some.inj H
      go_wp2
      go_ret
      exact ⟨by first | rfl | (simp; done) | (simp [*]; done), by repeat (first | exact Drawn0.refl _ | apply Drawn0.step)⟩

end Go.Proofs.Ytgigoogekimgkaa.GCrd
