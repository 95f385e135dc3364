/- printed for this claim by gprint.py, a program of this session, that drives the kit's printer. -/
import Derived.Test.YtefomcoimbnalaaDoorGGlbx0
import Derived.Test.YtefomcoimbnalaaDoorGGlbx1
import Derived.Test.YtefomcoimbnalaaDoorGGlbx3
namespace Go.Proofs.YtefomcoimbnalaaDoor.GGlb
open Go.RowKit Go.Proofs.YtefomcoimbnalaaDoorW.PrintWords Go.Proofs.YtefomcoimbnalaaDoorW.PrintLast Go.Proofs.YtefomcoimbnalaaDoorW.PrintMore
attribute [local go_sem] max2_int min2_int max_two min_two max_three min_three max_four min_four   -- for this text's walks alone
set_option linter.unusedVariables false
set_option linter.unusedSimpArgs false

/-! ### paths_Split: function 24 -/
def paths_Split.j0 : Nat → ByteArray → Bool → Option (List ByteArray × Int)
  | 0, _, _ => none
  | k + 1, x4, x12 => if x12 = true then (some (([] : List ByteArray), 4)) else (if x4.toList = ([] : List UInt8) then (some (([] : List ByteArray), 0)) else ((strings_Split.f x4 (⟨#[47]⟩ : ByteArray)).bind fun t136 => ((GOdd.f t136).bind fun t139 => (if t139 = true then (some (([] : List ByteArray), 4)) else (some (t136, 0))))))
def paths_Split.f (k : Nat) (a0 : ByteArray) : Option (List ByteArray × Int) := (strings_CutPrefix.f a0 (⟨#[47]⟩ : ByteArray)).bind fun bt134 => (if bt134.2 = true then (paths_Split.j0 k bt134.1 (decide ((a0.size : Int) > 255))) else (paths_Split.j0 k bt134.1 true))
theorem paths_Split.mono_l : ∀ k, (∀ y0 y1, LeO (paths_Split.j0 k y0 y1) (paths_Split.j0 (k + 1) y0 y1))
  | 0 => fun _ _ r h => by simp [paths_Split.j0] at h
  | k + 1 => by
    have ih0 := paths_Split.mono_l k
    · intro y0 y1
      unfold paths_Split.j0
      repeat' first
      | (with_reducible exact ih0 _ _)
      | (with_reducible exact LeO.refl _)
      | (with_reducible exact LeO.none _)
      | (with_reducible refine LeO.ite ?_ ?_)
      | (with_reducible refine LeO.bind ?_ (fun _ => ?_))
      | exact ih0 _ _
      | exact LeO.none _
      | refine LeO.ite ?_ ?_
      | refine LeO.bind ?_ (fun _ => ?_)
theorem paths_Split.mono : ∀ a0 k, LeO (paths_Split.f k a0) (paths_Split.f (k + 1) a0) := by
  intro a0 k
  have ih0 := paths_Split.mono_l k
  unfold paths_Split.f
  repeat' first
      | (with_reducible exact ih0 _ _)
      | (with_reducible exact LeO.refl _)
      | (with_reducible exact LeO.none _)
      | (with_reducible refine LeO.ite ?_ ?_)
      | (with_reducible refine LeO.bind ?_ (fun _ => ?_))
      | exact ih0 _ _
      | exact LeO.none _
      | refine LeO.ite ?_ ?_
      | refine LeO.bind ?_ (fun _ => ?_)
set_option maxHeartbeats 8000000 in
set_option maxRecDepth 100000 in
theorem paths_Split.calls (k : Nat) (a0 : ByteArray) (r1 : List ByteArray) (r2 : Int) (w : World) (h : paths_Split.f k a0 = some (r1, r2)) :
    Calls Tryd.prog 24 #[.string a0] w fun e w' => ∃ v0_ : Value, e = .returned (.tuple #[v0_, .int .i64 r2]) ∧ Kd.R Kd.string 9 w' w.heap.size (fun _ => True) v0_ r1 ∧ Below w.heap.size w w' := by
  have HB := Aside0.mk (Below.refl w.heap.size w)
  have H : ((strings_CutPrefix.f a0 (⟨#[47]⟩ : ByteArray)).bind fun bt134 => (if bt134.2 = true then (paths_Split.j0 k bt134.1 (decide ((a0.size : Int) > 255))) else (paths_Split.j0 k bt134.1 true))) = some (r1, r2) := h
  clear h
  replace H := Option.bind_eq_some_iff.mp H
  obtain ⟨⟨t134, t135⟩, A20, H⟩ := H
  replace H : (if t135 = true then (paths_Split.j0 k t134 (decide ((a0.size : Int) > 255))) else (paths_Split.j0 k t134 true)) = some (r1, r2) := H
  have A2 := Aside0.mk A20
  clear A20
  have HC3 := Aside0.mk H
  clear H
  go_enter Tryd.func24, Tryd.ntmps24
  go_upto_region 2 with (first | ((with_reducible refine gate_callee (f := 20) rfl ?_); refine goesL_ (some 9) rfl rfl Tryd.func20 (by kernel_rfl) rfl #[.string a0, .string (⟨#[47]⟩ : ByteArray)] rfl (by (try simp only [List.map_toArray, List.map_cons, List.map_nil]); first | done | rfl | (simp only [List.length_drop, List.length_take]; rfl)) ?_; (with_reducible refine (strings_CutPrefix.calls a0 (⟨#[47]⟩ : ByteArray) t134 t135 _ A2.out).mono ?_); rintro e w' ⟨rfl, ⟨nd, rfl⟩⟩; refine ⟨_, rfl, ?_⟩))
  (try simp only [Act.put, List.setIfInBounds_toArray, List.set_cons_zero, List.set_cons_succ])
  go_cut [12] (fun v12 wc => ∃ (kq : Nat) (x12_2 : Bool), v12 = .bool x12_2 ∧ Aside0 (paths_Split.j0 kq t134 x12_2 = some (r1, r2)) ∧ Aside0 (kq ≤ k) ∧ Aside0 (Below w.heap.size w wc))
  case first =>
    have H := HC3.out
    clear HC3
    by_cases c4 : t135 = true
    · subst c4
      have H1 : (paths_Split.j0 k t134 (decide ((a0.size : Int) > 255))) = some (r1, r2) := by rw [if_pos rfl] at H; exact H
      clear H
      have H := H1
      clear H1
      have H' := Aside0.mk H
      clear H
      go_wp2
      go_meet
      case rel => exact ⟨_, (decide ((a0.size : Int) > 255)), (by first | rfl | (simp; done) | (simp [*]; done) | exact gw_ne _ | exact gw_eq _), H', ⟨by first | omega | exact Nat.le_refl _⟩, ⟨by repeat (first | (with_reducible first | exact HB.out | apply below_alloc | apply pw_below_drewN | apply below_drew1) | exact HB.out)⟩⟩
    · replace c4 := Bool.eq_false_iff.mpr c4
      subst c4
      have H1 : (paths_Split.j0 k t134 true) = some (r1, r2) := by rw [if_neg (show ¬ (false = true) by decide)] at H; exact H
      clear H
      have H := H1
      clear H1
      have H' := Aside0.mk H
      clear H
      go_wp2
      go_meet
      case rel => exact ⟨_, (true), (by first | rfl | (simp; done) | (simp [*]; done) | exact gw_ne _ | exact gw_eq _), H', ⟨by first | omega | exact Nat.le_refl _⟩, ⟨by repeat (first | (with_reducible first | exact HB.out | apply below_alloc | apply pw_below_drewN | apply below_drew1) | exact HB.out)⟩⟩
  case rest =>
    clear HC3
    try clear c2
    try clear p2
    try clear c4
    obtain ⟨kq, x12_2, rfl, HA, HJ2, HB⟩ := hcut
    cases kq with
    | zero => exact absurd HA.out (by simp [paths_Split.j0])
    | succ kj2 =>
      have H := HA.out
      clear HA
      simp only [paths_Split.j0] at H
      by_cases c5 : x12_2 = true
      · subst c5
        have H1 : (some (([] : List ByteArray), 4)) = some (r1, r2) := by rw [if_pos rfl] at H; exact H
        clear H
        have H := H1
        clear H1
        simp only [Option.some.injEq, Prod.mk.injEq] at H
        obtain ⟨rfl, rfl⟩ := H
        go_wp2
        go_ret2
        exact ⟨_, by first | rfl | (simp [errW_none, errW_some] <;> rfl) | (simp [*, errW_none, errW_some] <;> rfl), by first | exact Kd.R_nil _ _ _ _ _ | exact Kd.N_nil _ _ _ _ _ | exact Kd.V_nil _ _ _ _ _ | exact Kd.Q_nil _ _ _ _ _ | exact Kd.S_nil _ _ _ _ _, by repeat (first | (with_reducible first | exact HB.out | apply below_alloc | apply pw_below_drewN | apply below_drew1) | exact HB.out)⟩
      · replace c5 := Bool.eq_false_iff.mpr c5
        subst c5
        have H1 : (if t134.toList = ([] : List UInt8) then (some (([] : List ByteArray), 0)) else ((strings_Split.f t134 (⟨#[47]⟩ : ByteArray)).bind fun t136 => ((GOdd.f t136).bind fun t139 => (if t139 = true then (some (([] : List ByteArray), 4)) else (some (t136, 0)))))) = some (r1, r2) := by rw [if_neg (show ¬ (false = true) by decide)] at H; exact H
        clear H
        have H := H1
        clear H1
        by_cases c6 : t134.toList = ([] : List UInt8)
        · rw [if_pos c6] at H
          have c6b0 : (t134.toList == ([] : List UInt8)) = true := beq_iff_eq.mpr c6
          have c6b1 : (t134.toList != ([] : List UInt8)) = false := bne_eq_false_iff_eq.mpr c6
          clear c6
          simp only [Option.some.injEq, Prod.mk.injEq] at H
          obtain ⟨rfl, rfl⟩ := H
          go_wp2
          go_ret2
          exact ⟨_, by first | rfl | (simp [errW_none, errW_some] <;> rfl) | (simp [*, errW_none, errW_some] <;> rfl), by first | exact Kd.R_nil _ _ _ _ _ | exact Kd.N_nil _ _ _ _ _ | exact Kd.V_nil _ _ _ _ _ | exact Kd.Q_nil _ _ _ _ _ | exact Kd.S_nil _ _ _ _ _, by repeat (first | (with_reducible first | exact HB.out | apply below_alloc | apply pw_below_drewN | apply below_drew1) | exact HB.out)⟩
        · rw [if_neg c6] at H
          have c6b0 : (t134.toList == ([] : List UInt8)) = false := beq_eq_false_iff_ne.mpr c6
          have c6b1 : (t134.toList != ([] : List UInt8)) = true := bne_iff_ne.mpr c6
          replace H := Option.bind_eq_some_iff.mp H
          obtain ⟨t136, A70, H⟩ := H
          replace H : ((GOdd.f t136).bind fun t139 => (if t139 = true then (some (([] : List ByteArray), 4)) else (some (t136, 0)))) = some (r1, r2) := H
          have A7 := Aside0.mk A70
          clear A70
          replace H := Option.bind_eq_some_iff.mp H
          obtain ⟨t139, A80, H⟩ := H
          replace H : (if t139 = true then (some (([] : List ByteArray), 4)) else (some (t136, 0))) = some (r1, r2) := H
          have A8 := Aside0.mk A80
          clear A80
          by_cases c9 : t139 = true
          · subst c9
            have H1 : (some (([] : List ByteArray), 4)) = some (r1, r2) := by rw [if_pos rfl] at H; exact H
            clear H
            have H := H1
            clear H1
            simp only [Option.some.injEq, Prod.mk.injEq] at H
            obtain ⟨rfl, rfl⟩ := H
            go_wp2_with (first | ((with_reducible refine gate_callee (f := 21) rfl ?_); refine goesL_ (some 24) rfl rfl Tryd.func21 (by kernel_rfl) rfl #[.string t134, .string (⟨#[47]⟩ : ByteArray)] rfl (by (try simp only [List.map_toArray, List.map_cons, List.map_nil]); first | done | rfl | (simp only [List.length_drop, List.length_take]; rfl)) ?_; (with_reducible refine (strings_Split.calls t134 (⟨#[47]⟩ : ByteArray) t136 _ A7.out).mono ?_); rintro e w10 ⟨v137, rfl, ho0, hb⟩; refine ⟨_, rfl, ?_⟩; have n0_ := Aside0.mk (Kd.R_lower ho0 (below_size (by repeat (first | (with_reducible first | exact HB.out | apply below_alloc | apply pw_below_drewN | apply below_drew1) | exact HB.out)))); have n1_ := Aside0.mk (below_step (by repeat (first | (with_reducible first | exact HB.out | apply below_alloc | apply pw_below_drewN | apply below_drew1) | exact HB.out)) hb); clear HB; have HO138 := n0_; have HB := n1_; clear n0_ n1_; (try clear hb); (try clear hb2); (try clear hk); (try clear hi); (try clear ho0); obtain ⟨Ao11, co11, eo11⟩ := Kd.R_slice HO138.out; subst eo11) | ((with_reducible refine gate_callee (f := 22) rfl ?_); refine goesL_ (some 26) rfl rfl Tryd.func22 (by kernel_rfl) rfl #[.slice Ao11 t136.length co11, .func (.func 34) #[] #[]] rfl (by (try simp only [List.map_toArray, List.map_cons, List.map_nil]); first | done | rfl | (simp only [List.length_drop, List.length_take]; rfl)) ?_; (with_reducible refine (GOdd.calls _ _ t136 true _ ?side1 ?side2 A8.out).mono ?_); (case side1 => repeat (first | exact (Kd.R_reads' HO138.out).2.2 | (with_reducible refine Kd.C_alloc ?_ _) | (with_reducible refine Kd.C_drewN ?_ _) | (with_reducible refine Kd.C_drew ?_))); (case side2 => exact (Kd.R_reads' HO138.out).2.1); rintro e w12 ⟨rfl, hb⟩; refine ⟨_, rfl, ?_⟩; have n0_ := Aside0.mk (Kd.R_below (by (with_reducible repeat (first | apply Kd.R_alloc | apply Kd.R_drewN | apply Kd.R_drew)); exact HO138.out) hb); have n1_ := Aside0.mk (below_step (by repeat (first | (with_reducible first | exact HB.out | apply below_alloc | apply pw_below_drewN | apply below_drew1) | exact HB.out)) hb); clear HO138; clear HB; have HO138 := n0_; have HB := n1_; clear n0_ n1_; (try clear hb); (try clear hb2); (try clear hk); (try clear hi)))
            go_ret2
            exact ⟨_, by first | rfl | (simp [errW_none, errW_some] <;> rfl) | (simp [*, errW_none, errW_some] <;> rfl), by first | exact Kd.R_nil _ _ _ _ _ | exact Kd.N_nil _ _ _ _ _ | exact Kd.V_nil _ _ _ _ _ | exact Kd.Q_nil _ _ _ _ _ | exact Kd.S_nil _ _ _ _ _, by repeat (first | (with_reducible first | exact HB.out | apply below_alloc | apply pw_below_drewN | apply below_drew1) | exact HB.out)⟩
          · replace c9 := Bool.eq_false_iff.mpr c9
            subst c9
            have H1 : (some (t136, 0)) = some (r1, r2) := by rw [if_neg (show ¬ (false = true) by decide)] at H; exact H
            clear H
            have H := H1
            clear H1
            simp only [Option.some.injEq, Prod.mk.injEq] at H
            obtain ⟨rfl, rfl⟩ := H
            go_wp2_with (first | ((with_reducible refine gate_callee (f := 21) rfl ?_); refine goesL_ (some 24) rfl rfl Tryd.func21 (by kernel_rfl) rfl #[.string t134, .string (⟨#[47]⟩ : ByteArray)] rfl (by (try simp only [List.map_toArray, List.map_cons, List.map_nil]); first | done | rfl | (simp only [List.length_drop, List.length_take]; rfl)) ?_; (with_reducible refine (strings_Split.calls t134 (⟨#[47]⟩ : ByteArray) t136 _ A7.out).mono ?_); rintro e w13 ⟨v137, rfl, ho0, hb⟩; refine ⟨_, rfl, ?_⟩; have n0_ := Aside0.mk (Kd.R_lower ho0 (below_size (by repeat (first | (with_reducible first | exact HB.out | apply below_alloc | apply pw_below_drewN | apply below_drew1) | exact HB.out)))); have n1_ := Aside0.mk (below_step (by repeat (first | (with_reducible first | exact HB.out | apply below_alloc | apply pw_below_drewN | apply below_drew1) | exact HB.out)) hb); clear HB; have HO138 := n0_; have HB := n1_; clear n0_ n1_; (try clear hb); (try clear hb2); (try clear hk); (try clear hi); (try clear ho0); obtain ⟨Ao14, co14, eo14⟩ := Kd.R_slice HO138.out; subst eo14) | ((with_reducible refine gate_callee (f := 22) rfl ?_); refine goesL_ (some 26) rfl rfl Tryd.func22 (by kernel_rfl) rfl #[.slice Ao14 t136.length co14, .func (.func 34) #[] #[]] rfl (by (try simp only [List.map_toArray, List.map_cons, List.map_nil]); first | done | rfl | (simp only [List.length_drop, List.length_take]; rfl)) ?_; (with_reducible refine (GOdd.calls _ _ t136 false _ ?side1 ?side2 A8.out).mono ?_); (case side1 => repeat (first | exact (Kd.R_reads' HO138.out).2.2 | (with_reducible refine Kd.C_alloc ?_ _) | (with_reducible refine Kd.C_drewN ?_ _) | (with_reducible refine Kd.C_drew ?_))); (case side2 => exact (Kd.R_reads' HO138.out).2.1); rintro e w15 ⟨rfl, hb⟩; refine ⟨_, rfl, ?_⟩; have n0_ := Aside0.mk (Kd.R_below (by (with_reducible repeat (first | apply Kd.R_alloc | apply Kd.R_drewN | apply Kd.R_drew)); exact HO138.out) hb); have n1_ := Aside0.mk (below_step (by repeat (first | (with_reducible first | exact HB.out | apply below_alloc | apply pw_below_drewN | apply below_drew1) | exact HB.out)) hb); clear HO138; clear HB; have HO138 := n0_; have HB := n1_; clear n0_ n1_; (try clear hb); (try clear hb2); (try clear hk); (try clear hi)))
            go_ret2
            exact ⟨_, by first | rfl | (simp [errW_none, errW_some] <;> rfl) | (simp [*, errW_none, errW_some] <;> rfl), by (with_reducible repeat (first | apply Kd.R_alloc | apply Kd.R_drewN | apply Kd.R_drew)); exact HO138.out, by repeat (first | (with_reducible first | exact HB.out | apply below_alloc | apply pw_below_drewN | apply below_drew1) | exact HB.out)⟩

/-! ### GNot: a call with a constant function -/
def GNot.l0 (k : Nat) : List ByteArray → Option (Bool)
  | [] => some false
  | x :: r => (glob_Right.f k x).bind fun t => if t = true then GNot.l0 k r else some true
def GNot.f (k : Nat) (l0 : List ByteArray) : Option (Bool) := GNot.l0 k l0
theorem GNot.mono : ∀ l k, LeO (GNot.f k l) (GNot.f (k + 1) l)
  | [], _ => LeO.refl _
  | x :: r, k => LeO.bind (glob_Right.mono x k) (fun _ => LeO.ite (GNot.mono r k) (LeO.refl _))
set_option maxHeartbeats 2000000 in
theorem GNot.one (k : Nat) (x : ByteArray) (t : Bool) (w : World) (h : glob_Right.f k x = some t) : Calls Tryd.prog 23 #[.string x] w fun e w' => e = .returned (.bool (!t)) ∧ Below w.heap.size w w' := by
  have C := Aside0.mk (glob_Right.calls k x t w h)
  clear h
  go_enter Tryd.func23, Tryd.ntmps23
  go_wp2_with (go_at_call 9; (with_reducible refine C.out.mono ?_); rintro e w' ⟨rfl, hb⟩)
  go_ret
  exact ⟨rfl, hb⟩
set_option maxHeartbeats 2000000 in
set_option maxRecDepth 100000 in
theorem GNot.index (k : Nat) (A0 : Option Addr) (c0 : Nat) (l0 : List ByteArray) (r : Bool) (w : World) (hr0 : Kd.C Kd.string w A0 l0.length l0) (h : GNot.f k l0 = some r) :
    Calls Tryd.prog 33 #[.slice A0 l0.length c0, .func (.func 23) #[] #[]] w fun e w' => (∃ i : Int, e = .returned (.int .i64 i) ∧ (i = -1 ∨ 0 ≤ i) ∧ r = decide (0 ≤ i)) ∧ Below w.heap.size w w' := by
  have HR := Aside0.mk hr0
  have hmax := hr0.2.1
  clear hr0
  have H := Aside0.mk h
  clear h
  go_enter Tryd.func33, Tryd.ntmps33
  go_wp2
  go_loopg [8] l0.length (fun kq v8 wx => ∃ i : Nat, v8 = .int .i64 (i : Int) ∧ i ≤ l0.length ∧ l0.length ≤ i + kq ∧ Aside0 (GNot.l0 k (l0.drop i) = some r) ∧ Aside0 (Below w.heap.size w wx))
  case atStart => exact ⟨0, rfl, Nat.zero_le _, by omega, H, ⟨Below.refl _ w⟩⟩
  case round =>
    obtain ⟨i, rfl, hi, hfu, HA, HB⟩ := hrel
    by_cases hlt : i < l0.length
    · obtain ⟨k1, rfl⟩ : ∃ k1, gk = k1 + 1 := ⟨gk - 1, by omega⟩
      have hd : l0.drop i = l0[i] :: l0.drop (i + 1) := List.drop_eq_getElem_cons hlt
      have hh := HA.out
      rw [hd] at hh
      simp only [GNot.l0] at hh
      obtain ⟨t, ht, hh2⟩ := Option.bind_eq_some_iff.1 hh
      clear hh
      clear HA hd
      have hltI : decide ((i : Int) < (l0.length : Int)) = true := decide_eq_true (by omega)
      have p1 : 0 ≤ (i : Int) := by omega
      have q1 : (i : Int) < (l0.length : Int) := by omega
      obtain ⟨ad, e1, hx⟩ := Kd.at_string (Kd.C_below HR.out HB.out) (i : Int) p1 q1
      cases e1
      have hv : rdOf ByteArray.empty l0 (i : Int) = l0[i] := by
        simp [rdOf, hlt]
      rw [hv, Int.toNat_natCast] at hx
      generalize l0[i] = X at *
      have hwr : wrap64 ((i : Int) + 1) = ((i + 1 : Nat) : Int) := by
        simp only [wrap64, IntKind.wrap]
        omega
      have c : Calls Tryd.prog 23 #[.string X] wr fun e w' => e = .returned (.bool (!t)) ∧ Below wr.heap.size wr w' := GNot.one k X t wr ht
      have C := Aside0.mk c
      have HH := Aside0.mk hh2
      clear c ht hh2
      replace p1 := eq_true p1
      replace q1 := eq_true q1
      cases t with
      | false =>
        go_wp2_with (go_at_call 23; (with_reducible refine C.out.mono ?_); rintro e w' ⟨rfl, hb⟩)
        go_ret
        have hr := HH.out
        have : r = true := by simpa using hr.symm
        subst this
        exact ⟨⟨(i : Int), rfl, Or.inr (by omega), by simp⟩, HB.out.trans (hb.mono HB.out.size)⟩
      | true =>
        go_wp2_with (go_at_call 23; (with_reducible refine C.out.mono ?_); rintro e w' ⟨rfl, hb⟩)
        go_roundg k1
        case measure => omega
        case rel => exact ⟨i + 1, by first | rfl | (rw [hwr]; done), by omega, by omega, ⟨by simpa using HH.out⟩, ⟨HB.out.trans (hb.mono HB.out.size)⟩⟩
    · have hltI : decide ((i : Int) < (l0.length : Int)) = false := decide_eq_false (by omega)
      have hh := HA.out
      rw [List.drop_eq_nil_of_le (by omega)] at hh
      have : r = false := by simpa [GNot.l0] using hh.symm
      subst this
      go_wp2
      go_ret
      exact ⟨⟨-1, rfl, Or.inl rfl, by decide⟩, HB.out⟩
theorem GNot.calls (k : Nat) (A0 : Option Addr) (c0 : Nat) (l0 : List ByteArray) (r : Bool) (w : World) (hr0 : Kd.C Kd.string w A0 l0.length l0) (_hc0 : l0.length ≤ c0) (h : GNot.f k l0 = some r) :
    Calls Tryd.prog 22 #[.slice A0 l0.length c0, .func (.func 23) #[] #[]] w fun e w' => e = .returned (.bool r) ∧ Below w.heap.size w w' := by
  have C := Aside0.mk (GNot.index k A0 c0 l0 r w hr0 h)
  clear hr0 h
  generalize l0.length = n at *
  go_enter Tryd.func22, Tryd.ntmps22
  go_wp2_with (go_at_call 33; (with_reducible refine C.out.mono ?_); rintro e w' ⟨⟨i, rfl, hi, rfl⟩, hb⟩)
  go_ret
  exact ⟨rfl, hb⟩
/-! ### GEach: a call with a constant function -/
def GEach.l0 (k : Nat) : List ByteArray → List ByteArray → Option (Bool)
  | x :: r, y :: s => (glob_Match.f k x y).bind fun t => if t = true then GEach.l0 k r s else some false
  | _, _ => some true
def GEach.f (k : Nat) (l0 : List ByteArray) (l1 : List ByteArray) : Option (Bool) := if l0.length = l1.length then (GEach.l0 k l0 l1) else (some false)
theorem GEach.mono_l : ∀ l m k, LeO (GEach.l0 k l m) (GEach.l0 (k + 1) l m)
  | x :: r, y :: s, k => by
    simp only [GEach.l0]
    exact LeO.bind (glob_Match.mono x y k) (fun _ => LeO.ite (GEach.mono_l r s k) (LeO.refl _))
  | [], _, _ => by simp only [GEach.l0]; exact LeO.refl _
  | _ :: _, [], _ => by simp only [GEach.l0]; exact LeO.refl _
theorem GEach.mono : ∀ l m k, LeO (GEach.f k l m) (GEach.f (k + 1) l m) := by
  intro l m k
  unfold GEach.f
  exact LeO.ite (GEach.mono_l l m k) (LeO.refl _)
set_option maxHeartbeats 2000000 in
set_option maxRecDepth 100000 in
theorem GEach.calls (k : Nat) (A0 : Option Addr) (c0 : Nat) (l0 : List ByteArray) (A1 : Option Addr) (c1 : Nat) (l1 : List ByteArray) (r : Bool) (w : World) (hr0 : Kd.C Kd.string w A0 l0.length l0) (_hc0 : l0.length ≤ c0) (hr1 : Kd.C Kd.string w A1 l1.length l1) (_hc1 : l1.length ≤ c1) (h : GEach.f k l0 l1 = some r) :
    Calls Tryd.prog 25 #[.slice A0 l0.length c0, .slice A1 l1.length c1, .func (.func 10) #[] #[]] w fun e w' => e = .returned (.bool r) ∧ Below w.heap.size w w' := by
  have HR := Aside0.mk hr0
  have HS := Aside0.mk hr1
  have hmax := hr0.2.1
  clear hr0 hr1
  unfold GEach.f at h
  by_cases hl : l0.length = l1.length
  · rw [if_pos hl] at h
    have H := Aside0.mk h
    clear h
    have hne : ((l0.length : Int) != (l1.length : Int)) = false := bne_eq_false_iff_eq.mpr (by omega)
    have HL := Aside0.mk hl
    clear hl
    go_enter Tryd.func25, Tryd.ntmps25
    go_wp2
    go_loopg [17] l0.length (fun kq v8 wx => ∃ i : Nat, v8 = .int .i64 (i : Int) ∧ i ≤ l0.length ∧ l0.length ≤ i + kq ∧ Aside0 (GEach.l0 k (l0.drop i) (l1.drop i) = some r) ∧ Aside0 (Below w.heap.size w wx))
    case atStart => exact ⟨0, rfl, Nat.zero_le _, by omega, H, ⟨Below.refl _ w⟩⟩
    case round =>
      obtain ⟨i, rfl, hi, hfu, HA, HB⟩ := hrel
      by_cases hlt : i < l0.length
      · obtain ⟨k1, rfl⟩ : ∃ k1, gk = k1 + 1 := ⟨gk - 1, by omega⟩
        have hlt1 : i < l1.length := by have := HL.out; omega
        have hd : l0.drop i = l0[i] :: l0.drop (i + 1) := List.drop_eq_getElem_cons hlt
        have hd1 : l1.drop i = l1[i] :: l1.drop (i + 1) := List.drop_eq_getElem_cons hlt1
        have hh := HA.out
        rw [hd, hd1] at hh
        simp only [GEach.l0] at hh
        obtain ⟨t, ht, hh2⟩ := Option.bind_eq_some_iff.1 hh
        clear hh
        clear HA hd hd1
        have hltI : decide ((i : Int) < (l0.length : Int)) = true := decide_eq_true (by omega)
        have p1 : 0 ≤ (i : Int) := by omega
        have q1 : (i : Int) < (l0.length : Int) := by omega
        have q2 : (i : Int) < (l1.length : Int) := by omega
        obtain ⟨ad, e1, hx⟩ := Kd.at_string (Kd.C_below HR.out HB.out) (i : Int) p1 q1
        cases e1
        obtain ⟨ad1, e2, hx1⟩ := Kd.at_string (Kd.C_below HS.out HB.out) (i : Int) p1 q2
        cases e2
        have hv : rdOf ByteArray.empty l0 (i : Int) = l0[i] := by
          simp [rdOf, hlt]
        have hv1 : rdOf ByteArray.empty l1 (i : Int) = l1[i] := by
          simp [rdOf, hlt1]
        rw [hv, Int.toNat_natCast] at hx
        rw [hv1, Int.toNat_natCast] at hx1
        generalize l0[i] = X at *
        generalize l1[i] = Y at *
        have hwr : wrap64 ((i : Int) + 1) = ((i + 1 : Nat) : Int) := by
          simp only [wrap64, IntKind.wrap]
          omega
        have c : Calls Tryd.prog 10 #[.string X, .string Y] wr fun e w' => e = .returned (.bool t) ∧ Below wr.heap.size wr w' := glob_Match.calls k X Y t wr ht
        have C := Aside0.mk c
        have HH := Aside0.mk hh2
        clear c ht hh2
        replace p1 := eq_true p1
        replace q1 := eq_true q1
        replace q2 := eq_true q2
        cases t with
        | false =>
          go_wp2_with (go_at_call 10; (with_reducible refine C.out.mono ?_); rintro e w' ⟨rfl, hb⟩)
          go_ret
          have hr := HH.out
          have : r = false := by simpa using hr.symm
          subst this
          exact ⟨rfl, HB.out.trans (hb.mono HB.out.size)⟩
        | true =>
          go_wp2_with (go_at_call 10; (with_reducible refine C.out.mono ?_); rintro e w' ⟨rfl, hb⟩)
          go_roundg k1
          case measure => omega
          case rel => exact ⟨i + 1, by first | rfl | (rw [hwr]; done), by omega, by omega, ⟨by simpa using HH.out⟩, ⟨HB.out.trans (hb.mono HB.out.size)⟩⟩
      · have hltI : decide ((i : Int) < (l0.length : Int)) = false := decide_eq_false (by omega)
        have hh := HA.out
        rw [List.drop_eq_nil_of_le (by omega)] at hh
        have : r = true := by simpa [GEach.l0] using hh.symm
        subst this
        go_wp2
        go_ret
        exact ⟨rfl, HB.out⟩
  · rw [if_neg hl] at h
    obtain rfl : r = false := by simpa using h.symm
    clear h
    have hne : ((l0.length : Int) != (l1.length : Int)) = true := bne_iff_ne.mpr (by omega)
    go_enter Tryd.func25, Tryd.ntmps25
    go_wp2
    go_ret
    exact ⟨rfl, Below.refl _ _⟩
/-! ### glob_Paths: function 13 -/
mutual
def glob_Paths.j0 : Nat → List ByteArray → List ByteArray → Option (List ByteArray)
  | 0, _, _ => none
  | k + 1, x1, x7 => (GNot.f k x7).bind fun t145 => (if t145 = true then (some ([] : List ByteArray)) else (glob_Paths.l0 k x7 ([] : List ByteArray) x1 (x1.length : Int) 0))
def glob_Paths.l0 : Nat → List ByteArray → List ByteArray → List ByteArray → Int → Int → Option (List ByteArray)
  | 0, _, _, _, _, _ => none
  | k + 1, x7, x8, x26, x27, x28 => if x28 < x27 then (if 0 ≤ x28 then (if x28 < (x26.length : Int) then ((paths_Split.f k (rdOf ByteArray.empty x26 x28)).bind fun bt147 => (if bt147.2 = 0 then ((GEach.f k x7 bt147.1).bind fun t151 => (if t151 = true then (if x8.length < 8796093022208 then (glob_Paths.l0 k x7 (x8 ++ [rdOf ByteArray.empty x26 x28]) x26 x27 (wrap64 (x28 + 1))) else (none)) else (glob_Paths.l0 k x7 x8 x26 x27 (wrap64 (x28 + 1))))) else (glob_Paths.l0 k x7 x8 x26 x27 (wrap64 (x28 + 1))))) else (none)) else (none)) else (some x8)
end
def glob_Paths.f (k : Nat) (a0 : ByteArray) (l1 : List ByteArray) : Option (List ByteArray) := (strings_CutPrefix.f a0 (⟨#[47]⟩ : ByteArray)).bind fun bt140 => (if bt140.2 = true then (if bt140.1.toList = ([] : List UInt8) then (glob_Paths.j0 k l1 ([] : List ByteArray)) else ((strings_Split.f bt140.1 (⟨#[47]⟩ : ByteArray)).bind fun t142 => (glob_Paths.j0 k l1 t142))) else (some ([] : List ByteArray)))
theorem glob_Paths.mono_l : ∀ k, (∀ y0 y1, LeO (glob_Paths.j0 k y0 y1) (glob_Paths.j0 (k + 1) y0 y1)) ∧ (∀ y0 y1 y2 y3 y4, LeO (glob_Paths.l0 k y0 y1 y2 y3 y4) (glob_Paths.l0 (k + 1) y0 y1 y2 y3 y4))
  | 0 => ⟨fun _ _ r h => by simp [glob_Paths.j0] at h, fun _ _ _ _ _ r h => by simp [glob_Paths.l0] at h⟩
  | k + 1 => by
    obtain ⟨ih0, ih1⟩ := glob_Paths.mono_l k
    refine ⟨?_, ?_⟩
    · intro y0 y1
      unfold glob_Paths.j0
      repeat' first
      | (with_reducible exact ih0 _ _)
      | (with_reducible exact ih1 _ _ _ _ _)
      | (with_reducible exact GEach.mono _ _ _)
      | (with_reducible exact GNot.mono _ _)
      | (with_reducible exact paths_Split.mono _ _)
      | (with_reducible exact LeO.refl _)
      | (with_reducible exact LeO.none _)
      | (with_reducible refine LeO.ite ?_ ?_)
      | (with_reducible refine LeO.bind ?_ (fun _ => ?_))
      | exact ih0 _ _
      | exact ih1 _ _ _ _ _
      | exact GEach.mono _ _ _
      | exact GNot.mono _ _
      | exact paths_Split.mono _ _
      | exact LeO.none _
      | refine LeO.ite ?_ ?_
      | refine LeO.bind ?_ (fun _ => ?_)
    · intro y0 y1 y2 y3 y4
      unfold glob_Paths.l0
      repeat' first
      | (with_reducible exact ih0 _ _)
      | (with_reducible exact ih1 _ _ _ _ _)
      | (with_reducible exact GEach.mono _ _ _)
      | (with_reducible exact GNot.mono _ _)
      | (with_reducible exact paths_Split.mono _ _)
      | (with_reducible exact LeO.refl _)
      | (with_reducible exact LeO.none _)
      | (with_reducible refine LeO.ite ?_ ?_)
      | (with_reducible refine LeO.bind ?_ (fun _ => ?_))
      | exact ih0 _ _
      | exact ih1 _ _ _ _ _
      | exact GEach.mono _ _ _
      | exact GNot.mono _ _
      | exact paths_Split.mono _ _
      | exact LeO.none _
      | refine LeO.ite ?_ ?_
      | refine LeO.bind ?_ (fun _ => ?_)
theorem glob_Paths.mono : ∀ a0 a1 k, LeO (glob_Paths.f k a0 a1) (glob_Paths.f (k + 1) a0 a1) := by
  intro a0 a1 k
  obtain ⟨ih0, ih1⟩ := glob_Paths.mono_l k
  unfold glob_Paths.f
  repeat' first
      | (with_reducible exact ih0 _ _)
      | (with_reducible exact ih1 _ _ _ _ _)
      | (with_reducible exact GEach.mono _ _ _)
      | (with_reducible exact GNot.mono _ _)
      | (with_reducible exact paths_Split.mono _ _)
      | (with_reducible exact LeO.refl _)
      | (with_reducible exact LeO.none _)
      | (with_reducible refine LeO.ite ?_ ?_)
      | (with_reducible refine LeO.bind ?_ (fun _ => ?_))
      | exact ih0 _ _
      | exact ih1 _ _ _ _ _
      | exact GEach.mono _ _ _
      | exact GNot.mono _ _
      | exact paths_Split.mono _ _
      | exact LeO.none _
      | refine LeO.ite ?_ ?_
      | refine LeO.bind ?_ (fun _ => ?_)
set_option maxHeartbeats 8000000 in
set_option maxRecDepth 100000 in
theorem glob_Paths.calls (k : Nat) (a0 : ByteArray) (A1 : Option Addr) (c1 : Nat) (l1 : List ByteArray) (r : List ByteArray) (w : World) (hr1 : Kd.C Kd.string w A1 l1.length l1) (hc1 : l1.length ≤ c1) (h : glob_Paths.f k a0 l1 = some r) :
    Calls Tryd.prog 13 #[.string a0, .slice A1 l1.length c1] w fun e w' => ∃ v0_ : Value, e = .returned (v0_) ∧ Kd.R Kd.string 9 w' w.heap.size (fun _ => True) v0_ r ∧ Below w.heap.size w w' := by
  have HR1 := Aside0.mk hr1
  have HC1 := Aside0.mk hc1
  clear hr1 hc1
  have HB := Aside0.mk (Below.refl w.heap.size w)
  have H : ((strings_CutPrefix.f a0 (⟨#[47]⟩ : ByteArray)).bind fun bt140 => (if bt140.2 = true then (if bt140.1.toList = ([] : List UInt8) then (glob_Paths.j0 k l1 ([] : List ByteArray)) else ((strings_Split.f bt140.1 (⟨#[47]⟩ : ByteArray)).bind fun t142 => (glob_Paths.j0 k l1 t142))) else (some ([] : List ByteArray)))) = some r := h
  clear h
  replace H := Option.bind_eq_some_iff.mp H
  obtain ⟨⟨t140, t141⟩, A30, H⟩ := H
  replace H : (if t141 = true then (if t140.toList = ([] : List UInt8) then (glob_Paths.j0 k l1 ([] : List ByteArray)) else ((strings_Split.f t140 (⟨#[47]⟩ : ByteArray)).bind fun t142 => (glob_Paths.j0 k l1 t142))) else (some ([] : List ByteArray))) = some r := H
  have A3 := Aside0.mk A30
  clear A30
  by_cases c4 : t141 = true
  · subst c4
    have H1 : (if t140.toList = ([] : List UInt8) then (glob_Paths.j0 k l1 ([] : List ByteArray)) else ((strings_Split.f t140 (⟨#[47]⟩ : ByteArray)).bind fun t142 => (glob_Paths.j0 k l1 t142))) = some r := by rw [if_pos rfl] at H; exact H
    clear H
    have H := H1
    clear H1
    have HC5 := Aside0.mk H
    clear H
    go_enter Tryd.func13, Tryd.ntmps13
    go_upto_if 21 with (first | ((with_reducible refine gate_callee (f := 20) rfl ?_); refine goesL_ (some 15) rfl rfl Tryd.func20 (by kernel_rfl) rfl #[.string a0, .string (⟨#[47]⟩ : ByteArray)] rfl (by (try simp only [List.map_toArray, List.map_cons, List.map_nil]); first | done | rfl | (simp only [List.length_drop, List.length_take]; rfl)) ?_; (with_reducible refine (strings_CutPrefix.calls a0 (⟨#[47]⟩ : ByteArray) t140 true _ A3.out).mono ?_); rintro e w' ⟨rfl, ⟨nd, rfl⟩⟩; refine ⟨_, rfl, ?_⟩))
    (try simp only [Act.put, List.setIfInBounds_toArray, List.set_cons_zero, List.set_cons_succ])
    go_cut [7] (fun v7 wc => ∃ (kq : Nat) (x7_4 : List ByteArray), Aside0 (glob_Paths.j0 kq l1 x7_4 = some r) ∧ Aside0 (kq ≤ k) ∧ Aside0 (Kd.R Kd.string 9 wc w.heap.size (fun _ => True) v7 x7_4) ∧ Aside0 (Below w.heap.size w wc))
    case first =>
      have H := HC5.out
      clear HC5
      by_cases c6 : t140.toList = ([] : List UInt8)
      · rw [if_pos c6] at H
        have c6b0 : (t140.toList == ([] : List UInt8)) = true := beq_iff_eq.mpr c6
        have c6b1 : (t140.toList != ([] : List UInt8)) = false := bne_eq_false_iff_eq.mpr c6
        have c6b8 : t140.toList.isEmpty = true := by simpa using c6b1
        clear c6
        (first | rw [c6b0] | (simp only [i64_w, i32_w]; rw [c6b0]) | skip)
        (try rw [c6b8])
        have H' := Aside0.mk H
        clear H
        go_wp2
        go_meet
        case rel => exact ⟨_, (([] : List ByteArray)), H', ⟨by first | omega | exact Nat.le_refl _⟩, ⟨by first | exact Kd.R_nil _ _ _ _ _ | exact Kd.N_nil _ _ _ _ _ | exact Kd.V_nil _ _ _ _ _ | exact Kd.Q_nil _ _ _ _ _ | exact Kd.S_nil _ _ _ _ _⟩, ⟨by repeat (first | (with_reducible first | exact HB.out | apply below_alloc | apply pw_below_drewN | apply below_drew1) | exact HB.out)⟩⟩
      · rw [if_neg c6] at H
        have c6b0 : (t140.toList == ([] : List UInt8)) = false := beq_eq_false_iff_ne.mpr c6
        have c6b1 : (t140.toList != ([] : List UInt8)) = true := bne_iff_ne.mpr c6
        have c6b8 : t140.toList.isEmpty = false := by simpa using c6b1
        (first | rw [c6b0] | (simp only [i64_w, i32_w]; rw [c6b0]) | skip)
        (try rw [c6b8])
        replace H := Option.bind_eq_some_iff.mp H
        obtain ⟨t142, A70, H⟩ := H
        replace H : (glob_Paths.j0 k l1 t142) = some r := H
        have A7 := Aside0.mk A70
        clear A70
        have H' := Aside0.mk H
        clear H
        go_wp2_with (first | ((with_reducible refine gate_callee (f := 21) rfl ?_); refine goesL_ (some 23) rfl rfl Tryd.func21 (by kernel_rfl) rfl #[.string t140, .string (⟨#[47]⟩ : ByteArray)] rfl (by (try simp only [List.map_toArray, List.map_cons, List.map_nil]); first | done | rfl | (simp only [List.length_drop, List.length_take]; rfl)) ?_; (with_reducible refine (strings_Split.calls t140 (⟨#[47]⟩ : ByteArray) t142 _ A7.out).mono ?_); rintro e w8 ⟨v143, rfl, ho0, hb⟩; refine ⟨_, rfl, ?_⟩; have n0_ := Aside0.mk (Kd.R_lower ho0 (below_size (by repeat (first | (with_reducible first | exact HB.out | apply below_alloc | apply pw_below_drewN | apply below_drew1) | exact HB.out)))); have n1_ := Aside0.mk (below_step (by repeat (first | (with_reducible first | exact HB.out | apply below_alloc | apply pw_below_drewN | apply below_drew1) | exact HB.out)) hb); clear HB; have HO144 := n0_; have HB := n1_; clear n0_ n1_; (try clear hb); (try clear hb2); (try clear hk); (try clear hi); (try clear ho0)))
        go_meet
        case rel => exact ⟨_, (t142), H', ⟨by first | omega | exact Nat.le_refl _⟩, ⟨by (with_reducible repeat (first | apply Kd.R_alloc | apply Kd.R_drewN | apply Kd.R_drew)); exact HO144.out⟩, ⟨by repeat (first | (with_reducible first | exact HB.out | apply below_alloc | apply pw_below_drewN | apply below_drew1) | exact HB.out)⟩⟩
    case rest =>
      clear HC5
      try clear c1
      try clear c2
      try clear p2
      try clear c4
      try clear c6
      try clear c6b0
      try clear c6b1
      obtain ⟨kq, x7_4, HA, HJ4, HO_7, HB⟩ := hcut
      cases kq with
      | zero => exact absurd HA.out (by simp [glob_Paths.j0])
      | succ kj4 =>
        have H := HA.out
        clear HA
        simp only [glob_Paths.j0] at H
        replace H := Option.bind_eq_some_iff.mp H
        obtain ⟨t145, A90, H⟩ := H
        replace H : (if t145 = true then (some ([] : List ByteArray)) else (glob_Paths.l0 kj4 x7_4 ([] : List ByteArray) l1 (l1.length : Int) 0)) = some r := H
        have A9 := Aside0.mk A90
        clear A90
        by_cases c10 : t145 = true
        · subst c10
          have H1 : (some ([] : List ByteArray)) = some r := by rw [if_pos rfl] at H; exact H
          clear H
          have H := H1
          clear H1
          obtain rfl := Option.some.inj H
          obtain ⟨Ao11, co11, eo11⟩ := Kd.R_slice HO_7.out
          subst eo11
          go_wp2_with (first | ((with_reducible refine gate_callee (f := 22) rfl ?_); refine goesL_ (some 25) rfl rfl Tryd.func22 (by kernel_rfl) rfl #[.slice Ao11 x7_4.length co11, .func (.func 23) #[] #[]] rfl (by (try simp only [List.map_toArray, List.map_cons, List.map_nil]); first | done | rfl | (simp only [List.length_drop, List.length_take]; rfl)) ?_; (with_reducible refine (GNot.calls kj4 _ _ x7_4 true _ ?side1 ?side2 A9.out).mono ?_); (case side1 => repeat (first | exact (Kd.R_reads' HO_7.out).2.2 | (with_reducible refine Kd.C_alloc ?_ _) | (with_reducible refine Kd.C_drewN ?_ _) | (with_reducible refine Kd.C_drew ?_))); (case side2 => exact (Kd.R_reads' HO_7.out).2.1); rintro e w12 ⟨rfl, hb⟩; refine ⟨_, rfl, ?_⟩; have n0_ := Aside0.mk (Kd.R_below (by (with_reducible repeat (first | apply Kd.R_alloc | apply Kd.R_drewN | apply Kd.R_drew)); exact HO_7.out) hb); have n1_ := Aside0.mk (below_step (by repeat (first | (with_reducible first | exact HB.out | apply below_alloc | apply pw_below_drewN | apply below_drew1) | exact HB.out)) hb); clear HO_7; clear HB; have HO_7 := n0_; have HB := n1_; clear n0_ n1_; (try clear hb); (try clear hb2); (try clear hk); (try clear hi)))
          go_ret
          exact ⟨_, by first | rfl | (simp [errW_none, errW_some] <;> rfl) | (simp [*, errW_none, errW_some] <;> rfl), by first | exact Kd.R_nil _ _ _ _ _ | exact Kd.N_nil _ _ _ _ _ | exact Kd.V_nil _ _ _ _ _ | exact Kd.Q_nil _ _ _ _ _ | exact Kd.S_nil _ _ _ _ _, by repeat (first | (with_reducible first | exact HB.out | apply below_alloc | apply pw_below_drewN | apply below_drew1) | exact HB.out)⟩
        · replace c10 := Bool.eq_false_iff.mpr c10
          subst c10
          have H1 : (glob_Paths.l0 kj4 x7_4 ([] : List ByteArray) l1 (l1.length : Int) 0) = some r := by rw [if_neg (show ¬ (false = true) by decide)] at H; exact H
          clear H
          have H := H1
          clear H1
          have H' := Aside0.mk H
          clear H
          obtain ⟨Ao13, co13, eo13⟩ := Kd.R_slice HO_7.out
          subst eo13
          go_wp2_with (first | ((with_reducible refine gate_callee (f := 22) rfl ?_); refine goesL_ (some 25) rfl rfl Tryd.func22 (by kernel_rfl) rfl #[.slice Ao13 x7_4.length co13, .func (.func 23) #[] #[]] rfl (by (try simp only [List.map_toArray, List.map_cons, List.map_nil]); first | done | rfl | (simp only [List.length_drop, List.length_take]; rfl)) ?_; (with_reducible refine (GNot.calls kj4 _ _ x7_4 false _ ?side1 ?side2 A9.out).mono ?_); (case side1 => repeat (first | exact (Kd.R_reads' HO_7.out).2.2 | (with_reducible refine Kd.C_alloc ?_ _) | (with_reducible refine Kd.C_drewN ?_ _) | (with_reducible refine Kd.C_drew ?_))); (case side2 => exact (Kd.R_reads' HO_7.out).2.1); rintro e w14 ⟨rfl, hb⟩; refine ⟨_, rfl, ?_⟩; have n0_ := Aside0.mk (Kd.R_below (by (with_reducible repeat (first | apply Kd.R_alloc | apply Kd.R_drewN | apply Kd.R_drew)); exact HO_7.out) hb); have n1_ := Aside0.mk (below_step (by repeat (first | (with_reducible first | exact HB.out | apply below_alloc | apply pw_below_drewN | apply below_drew1) | exact HB.out)) hb); clear HO_7; clear HB; have HO_7 := n0_; have HB := n1_; clear n0_ n1_; (try clear hb); (try clear hb2); (try clear hk); (try clear hi)))
          go_loopg [8, 28] kj4 (fun kq v8 v28 w' => ∃ (x8_2 : List ByteArray) (x28_2 : Int), v28 = .int .i64 x28_2 ∧ Aside0 (glob_Paths.l0 kq x7_4 x8_2 l1 (l1.length : Int) x28_2 = some r) ∧ Aside0 (kq ≤ kj4) ∧ Aside0 (Kd.R Kd.string 9 w' w.heap.size (fun k_ => some k_ ≠ (v8 : Value).ownBlock) (.slice Ao13 x7_4.length co13) x7_4) ∧ Aside0 (Kd.R Kd.string 9 w' w.heap.size (fun k_ => some k_ ≠ ((.slice Ao13 x7_4.length co13) : Value).ownBlock) v8 x8_2) ∧ Aside0 (Below w.heap.size w w'))
          case atStart => exact ⟨(([] : List ByteArray)), (0), (by first | rfl | (simp; done) | (simp [*]; done) | exact gw_ne _ | exact gw_eq _), H', ⟨Nat.le_refl _⟩, ⟨by (with_reducible repeat (first | apply Kd.R_alloc | apply Kd.R_drewN | apply Kd.R_drew)); exact Kd.R_mono HO_7.out (fun _ hk => (by simp [Value.ownBlock]))⟩, ⟨by first | exact Kd.R_nil _ _ _ _ _ | exact Kd.N_nil _ _ _ _ _ | exact Kd.V_nil _ _ _ _ _ | exact Kd.Q_nil _ _ _ _ _ | exact Kd.S_nil _ _ _ _ _⟩, ⟨by repeat (first | (with_reducible first | exact HB.out | apply below_alloc | apply pw_below_drewN | apply below_drew1) | exact HB.out)⟩⟩
          case round =>
            clear H'
            try clear c1
            try clear c2
            try clear p2
            try clear c4
            try clear c6
            try clear c6b0
            try clear c6b1
            try clear c9
            try clear c10
            try clear c13
            try clear p2
            obtain ⟨x8_2, x28_2, rfl, HA, HK2, HO_7, HO_8, HB⟩ := hrel
            cases gk with
            | zero => exact absurd HA.out (by simp [glob_Paths.l0])
            | succ k2 =>
              have H := HA.out
              clear HA
              simp only [glob_Paths.l0] at H
              by_cases c15 : x28_2 < (l1.length : Int)
              · rw [if_pos c15] at H
                have c15b0 : decide (x28_2 < (l1.length : Int)) = true := decide_eq_true c15
                clear c15
                by_cases c16 : 0 ≤ x28_2
                · rw [if_pos c16] at H
                  have c16b0 : decide (0 ≤ x28_2) = true := decide_eq_true c16
                  clear c16
                  by_cases c17 : x28_2 < (l1.length : Int)
                  · rw [if_pos c17] at H
                    have c17b0 : decide (x28_2 < (l1.length : Int)) = true := decide_eq_true c17
                    clear c17
                    replace H := Option.bind_eq_some_iff.mp H
                    obtain ⟨⟨t147, t148⟩, A180, H⟩ := H
                    replace H : (if t148 = 0 then ((GEach.f k2 x7_4 t147).bind fun t151 => (if t151 = true then (if x8_2.length < 8796093022208 then (glob_Paths.l0 k2 x7_4 (x8_2 ++ [rdOf ByteArray.empty l1 x28_2]) l1 (l1.length : Int) (wrap64 (x28_2 + 1))) else (none)) else (glob_Paths.l0 k2 x7_4 x8_2 l1 (l1.length : Int) (wrap64 (x28_2 + 1))))) else (glob_Paths.l0 k2 x7_4 x8_2 l1 (l1.length : Int) (wrap64 (x28_2 + 1)))) = some r := H
                    have A18 := Aside0.mk A180
                    clear A180
                    by_cases c19 : t148 = 0
                    · rw [if_pos c19] at H
                      have c19b0 : (t148 == 0) = true := beq_iff_eq.mpr c19
                      have c19b1 : (t148 != 0) = false := bne_eq_false_iff_eq.mpr c19
                      clear c19
                      replace H := Option.bind_eq_some_iff.mp H
                      obtain ⟨t151, A200, H⟩ := H
                      replace H : (if t151 = true then (if x8_2.length < 8796093022208 then (glob_Paths.l0 k2 x7_4 (x8_2 ++ [rdOf ByteArray.empty l1 x28_2]) l1 (l1.length : Int) (wrap64 (x28_2 + 1))) else (none)) else (glob_Paths.l0 k2 x7_4 x8_2 l1 (l1.length : Int) (wrap64 (x28_2 + 1)))) = some r := H
                      have A20 := Aside0.mk A200
                      clear A200
                      by_cases c21 : t151 = true
                      · subst c21
                        have H1 : (if x8_2.length < 8796093022208 then (glob_Paths.l0 k2 x7_4 (x8_2 ++ [rdOf ByteArray.empty l1 x28_2]) l1 (l1.length : Int) (wrap64 (x28_2 + 1))) else (none)) = some r := by rw [if_pos rfl] at H; exact H
                        clear H
                        have H := H1
                        clear H1
                        by_cases c22 : x8_2.length < 8796093022208
                        · rw [if_pos c22] at H
                          have LMc22 := Aside0.mk c22
                          clear c22
                          obtain ⟨y152, hy152⟩ : ∃ y_ : List ByteArray, y_ = (x8_2 ++ [rdOf ByteArray.empty l1 x28_2]) := ⟨_, rfl⟩
                          replace H : (glob_Paths.l0 k2 x7_4 y152 l1 (l1.length : Int) (wrap64 (x28_2 + 1))) = some r := by first | (rw [hy152]; with_reducible exact H) | (have H2_ := (Option.bind_some _ _).symm.trans H; rw [hy152]; with_reducible exact H2_) | (have H2_ := (Option.bind_some _ _).symm.trans H; with_reducible exact H2_) | with_reducible exact H | (rw [hy152]; exact H) | exact H
                          have Ny152 := Aside0.mk hy152
                          clear hy152
                          have H' := Aside0.mk H
                          clear H
                          have p146 : 0 ≤ (x28_2 : Int) := of_decide_eq_true (by first | (with_reducible assumption) | assumption)
                          have q146 : x28_2 < (l1.length : Int) := of_decide_eq_true (by first | (with_reducible assumption) | assumption)
                          obtain ⟨ad146, e146, hx146_0⟩ := Kd.at_string HR1.out x28_2 p146 q146
                          cases e146
                          replace hx146_0 := (HB.out.cell (World.block_lt_of_cell? w _ hx146_0)).trans hx146_0
                          replace p146 := eq_true p146
                          replace q146 := eq_true q146
                          go_wp2_with (first | ((with_reducible refine gate_callee (f := 24) rfl ?_); refine goesL_ (some 34) rfl rfl Tryd.func24 (by kernel_rfl) rfl #[.string (rdOf ByteArray.empty l1 x28_2)] rfl (by (try simp only [List.map_toArray, List.map_cons, List.map_nil]); first | done | rfl | (simp only [List.length_drop, List.length_take]; rfl)) ?_; (with_reducible refine (paths_Split.calls k2 (rdOf ByteArray.empty l1 x28_2) t147 t148 _ A18.out).mono ?_); rintro e w23 ⟨v149, rfl, ho0, hb⟩; refine ⟨_, rfl, ?_⟩; have n0_ := Aside0.mk (Kd.R_elder' (by (with_reducible repeat (first | apply Kd.R_alloc | apply Kd.R_drewN | apply Kd.R_drew)); exact HO_7.out) (Kd.R_base ho0) hb); have n1_ := Aside0.mk (Kd.R_elder' (by (with_reducible repeat (first | apply Kd.R_alloc | apply Kd.R_drewN | apply Kd.R_drew)); exact HO_8.out) (Kd.R_base ho0) hb); have n2_ := Aside0.mk (Kd.R_lower (Kd.R_new' (Kd.R_new' ho0 (Kd.R_lt (by (with_reducible repeat (first | apply Kd.R_alloc | apply Kd.R_drewN | apply Kd.R_drew)); exact HO_7.out))) (Kd.R_lt (by (with_reducible repeat (first | apply Kd.R_alloc | apply Kd.R_drewN | apply Kd.R_drew)); exact HO_8.out))) (below_size (by repeat (first | (with_reducible first | exact HB.out | apply below_alloc | apply pw_below_drewN | apply below_drew1) | exact HB.out)))); have n3_ := Aside0.mk (below_step (by repeat (first | (with_reducible first | exact HB.out | apply below_alloc | apply pw_below_drewN | apply below_drew1) | exact HB.out)) hb); clear HO_7; clear HO_8; clear HB; have HO_7 := n0_; have HO_8 := n1_; have HO150 := n2_; have HB := n3_; clear n0_ n1_ n2_ n3_; (try clear hb); (try clear hb2); (try clear hk); (try clear hi); (try clear ho0); obtain ⟨Ao24, co24, eo24⟩ := Kd.R_slice HO150.out; subst eo24) | (go_at_call 25; (with_reducible refine (GEach.calls k2 _ _ x7_4 _ _ t147 true _ ?side1 ?side2 ?side3 ?side4 A20.out).mono ?_); (case side1 => repeat (first | exact (Kd.R_reads' HO_7.out).2.2 | (with_reducible refine Kd.C_alloc ?_ _) | (with_reducible refine Kd.C_drewN ?_ _) | (with_reducible refine Kd.C_drew ?_))); (case side2 => exact (Kd.R_reads' HO_7.out).2.1); (case side3 => repeat (first | exact (Kd.R_reads' HO150.out).2.2 | (with_reducible refine Kd.C_alloc ?_ _) | (with_reducible refine Kd.C_drewN ?_ _) | (with_reducible refine Kd.C_drew ?_))); (case side4 => exact (Kd.R_reads' HO150.out).2.1); rintro e w25 ⟨rfl, hb⟩; have n0_ := Aside0.mk (Kd.R_below (by (with_reducible repeat (first | apply Kd.R_alloc | apply Kd.R_drewN | apply Kd.R_drew)); exact HO_7.out) hb); have n1_ := Aside0.mk (Kd.R_below (by (with_reducible repeat (first | apply Kd.R_alloc | apply Kd.R_drewN | apply Kd.R_drew)); exact HO_8.out) hb); have n2_ := Aside0.mk (Kd.R_below (by (with_reducible repeat (first | apply Kd.R_alloc | apply Kd.R_drewN | apply Kd.R_drew)); exact HO150.out) hb); have n3_ := Aside0.mk (below_step (by repeat (first | (with_reducible first | exact HB.out | apply below_alloc | apply pw_below_drewN | apply below_drew1) | exact HB.out)) hb); clear HO_7; clear HO_8; clear HO150; clear HB; have HO_7 := n0_; have HO_8 := n1_; have HO150 := n2_; have HB := n3_; clear n0_ n1_ n2_ n3_; (try clear hb); (try clear hb2); (try clear hk); (try clear hi)) | ((with_reducible refine gate_builtin (b := .append) (xs := #[.tmp 44, .tmp 46]) rfl ?_); at_builtin; refine Kd.R_append Kd.string (w0 := w) w.heap.size rfl (.tmp 44) (.tmp 46) 32 9 (.string ⟨#[]⟩) 16 rfl Tryd.underlying32 info9 rfl (by decide) (by omega) u8 x8_2 (rdOf ByteArray.empty l1 x28_2) [.string (rdOf ByteArray.empty l1 x28_2)] (fun k_ => some k_ ≠ (.slice Ao13 x7_4.length co13 : Value).ownBlock ∧ some k_ ≠ (.slice Ao24 t147.length co24 : Value).ownBlock) (fun _ => False) rfl rfl ?aP (fun _ hk => hk.elim) ?aF ?aO ?aB ?aS ?aL ?_; (case aP => exact rfl); (case aB => exact (by repeat (first | (with_reducible first | exact HB.out | apply below_alloc | apply pw_below_drewN | apply below_drew1) | exact HB.out))); (case aF => exact (fun k_ hk => ⟨Kd.fresh' (Kd.R_lt (by (with_reducible repeat (first | apply Kd.R_alloc | apply Kd.R_drewN | apply Kd.R_drew)); exact HO_7.out)) k_ hk, Kd.fresh' (Kd.R_lt (by (with_reducible repeat (first | apply Kd.R_alloc | apply Kd.R_drewN | apply Kd.R_drew)); exact HO150.out)) k_ hk⟩)); (case aO => exact (by (with_reducible repeat (first | apply Kd.R_alloc | apply Kd.R_drewN | apply Kd.R_drew)); exact HO_8.out)); (case aS => exact (below_size (by repeat (first | (with_reducible first | exact HB.out | apply below_alloc | apply pw_below_drewN | apply below_drew1) | exact HB.out)))); (case aL => have := LMc22.out; omega); intro v153 w26 ho hb hg hat; rw [← Ny152.out] at ho; have n0_ := Aside0.mk (Kd.R_after (ok := (fun k_ => some k_ ≠ (.slice Ao24 t147.length co24 : Value).ownBlock)) (by (with_reducible repeat (first | apply Kd.R_alloc | apply Kd.R_drewN | apply Kd.R_drew)); exact Kd.R_mono HO_7.out (fun _ hk => ⟨hk.2, hk.1⟩)) hg hat); have n1_ := Aside0.mk (Kd.R_after (ok := (fun k_ => some k_ ≠ (.slice Ao13 x7_4.length co13 : Value).ownBlock)) (by (with_reducible repeat (first | apply Kd.R_alloc | apply Kd.R_drewN | apply Kd.R_drew)); exact Kd.R_mono HO150.out (fun _ hk => ⟨hk.1.2, hk.2⟩)) hg hat); have n2_ := Aside0.mk (hb); have n3_ := Aside0.mk (ho); clear HO_7; clear HO150; clear HB; clear HO_8; have HO_7 := n0_; have HO150 := n1_; have HB := n2_; have HO154 := n3_; clear n0_ n1_ n2_ n3_; clear ho hb hg hat))
                          go_roundg k2
                          case measure => have := HJ4.out; have := HK2.out; omega
                          case rel => exact ⟨(y152), (wrap64 (x28_2 + 1)), (by first | rfl | (simp; done) | (simp [*]; done) | exact gw_ne _ | exact gw_eq _), H', ⟨by have := HJ4.out; have := HK2.out; omega⟩, ⟨by (with_reducible repeat (first | apply Kd.R_alloc | apply Kd.R_drewN | apply Kd.R_drew)); exact Kd.R_mono HO_7.out (fun _ hk => hk.2)⟩, ⟨by (with_reducible repeat (first | apply Kd.R_alloc | apply Kd.R_drewN | apply Kd.R_drew)); exact Kd.R_mono HO154.out (fun _ hk => hk.1)⟩, ⟨by repeat (first | (with_reducible first | exact HB.out | apply below_alloc | apply pw_below_drewN | apply below_drew1) | exact HB.out)⟩⟩
                        · rw [if_neg c22] at H
                          exact absurd H (by simp)
                      · replace c21 := Bool.eq_false_iff.mpr c21
                        subst c21
                        have H1 : (glob_Paths.l0 k2 x7_4 x8_2 l1 (l1.length : Int) (wrap64 (x28_2 + 1))) = some r := by rw [if_neg (show ¬ (false = true) by decide)] at H; exact H
                        clear H
                        have H := H1
                        clear H1
                        have H' := Aside0.mk H
                        clear H
                        have p146 : 0 ≤ (x28_2 : Int) := of_decide_eq_true (by first | (with_reducible assumption) | assumption)
                        have q146 : x28_2 < (l1.length : Int) := of_decide_eq_true (by first | (with_reducible assumption) | assumption)
                        obtain ⟨ad146, e146, hx146_0⟩ := Kd.at_string HR1.out x28_2 p146 q146
                        cases e146
                        replace hx146_0 := (HB.out.cell (World.block_lt_of_cell? w _ hx146_0)).trans hx146_0
                        replace p146 := eq_true p146
                        replace q146 := eq_true q146
                        go_wp2_with (first | ((with_reducible refine gate_callee (f := 24) rfl ?_); refine goesL_ (some 34) rfl rfl Tryd.func24 (by kernel_rfl) rfl #[.string (rdOf ByteArray.empty l1 x28_2)] rfl (by (try simp only [List.map_toArray, List.map_cons, List.map_nil]); first | done | rfl | (simp only [List.length_drop, List.length_take]; rfl)) ?_; (with_reducible refine (paths_Split.calls k2 (rdOf ByteArray.empty l1 x28_2) t147 t148 _ A18.out).mono ?_); rintro e w27 ⟨v149, rfl, ho0, hb⟩; refine ⟨_, rfl, ?_⟩; have n0_ := Aside0.mk (Kd.R_elder' (by (with_reducible repeat (first | apply Kd.R_alloc | apply Kd.R_drewN | apply Kd.R_drew)); exact HO_7.out) (Kd.R_base ho0) hb); have n1_ := Aside0.mk (Kd.R_elder' (by (with_reducible repeat (first | apply Kd.R_alloc | apply Kd.R_drewN | apply Kd.R_drew)); exact HO_8.out) (Kd.R_base ho0) hb); have n2_ := Aside0.mk (Kd.R_lower (Kd.R_new' (Kd.R_new' ho0 (Kd.R_lt (by (with_reducible repeat (first | apply Kd.R_alloc | apply Kd.R_drewN | apply Kd.R_drew)); exact HO_7.out))) (Kd.R_lt (by (with_reducible repeat (first | apply Kd.R_alloc | apply Kd.R_drewN | apply Kd.R_drew)); exact HO_8.out))) (below_size (by repeat (first | (with_reducible first | exact HB.out | apply below_alloc | apply pw_below_drewN | apply below_drew1) | exact HB.out)))); have n3_ := Aside0.mk (below_step (by repeat (first | (with_reducible first | exact HB.out | apply below_alloc | apply pw_below_drewN | apply below_drew1) | exact HB.out)) hb); clear HO_7; clear HO_8; clear HB; have HO_7 := n0_; have HO_8 := n1_; have HO150 := n2_; have HB := n3_; clear n0_ n1_ n2_ n3_; (try clear hb); (try clear hb2); (try clear hk); (try clear hi); (try clear ho0); obtain ⟨Ao28, co28, eo28⟩ := Kd.R_slice HO150.out; subst eo28) | (go_at_call 25; (with_reducible refine (GEach.calls k2 _ _ x7_4 _ _ t147 false _ ?side1 ?side2 ?side3 ?side4 A20.out).mono ?_); (case side1 => repeat (first | exact (Kd.R_reads' HO_7.out).2.2 | (with_reducible refine Kd.C_alloc ?_ _) | (with_reducible refine Kd.C_drewN ?_ _) | (with_reducible refine Kd.C_drew ?_))); (case side2 => exact (Kd.R_reads' HO_7.out).2.1); (case side3 => repeat (first | exact (Kd.R_reads' HO150.out).2.2 | (with_reducible refine Kd.C_alloc ?_ _) | (with_reducible refine Kd.C_drewN ?_ _) | (with_reducible refine Kd.C_drew ?_))); (case side4 => exact (Kd.R_reads' HO150.out).2.1); rintro e w29 ⟨rfl, hb⟩; have n0_ := Aside0.mk (Kd.R_below (by (with_reducible repeat (first | apply Kd.R_alloc | apply Kd.R_drewN | apply Kd.R_drew)); exact HO_7.out) hb); have n1_ := Aside0.mk (Kd.R_below (by (with_reducible repeat (first | apply Kd.R_alloc | apply Kd.R_drewN | apply Kd.R_drew)); exact HO_8.out) hb); have n2_ := Aside0.mk (Kd.R_below (by (with_reducible repeat (first | apply Kd.R_alloc | apply Kd.R_drewN | apply Kd.R_drew)); exact HO150.out) hb); have n3_ := Aside0.mk (below_step (by repeat (first | (with_reducible first | exact HB.out | apply below_alloc | apply pw_below_drewN | apply below_drew1) | exact HB.out)) hb); clear HO_7; clear HO_8; clear HO150; clear HB; have HO_7 := n0_; have HO_8 := n1_; have HO150 := n2_; have HB := n3_; clear n0_ n1_ n2_ n3_; (try clear hb); (try clear hb2); (try clear hk); (try clear hi)))
                        go_roundg k2
                        case measure => have := HJ4.out; have := HK2.out; omega
                        case rel => exact ⟨(x8_2), (wrap64 (x28_2 + 1)), (by first | rfl | (simp; done) | (simp [*]; done) | exact gw_ne _ | exact gw_eq _), H', ⟨by have := HJ4.out; have := HK2.out; omega⟩, ⟨by (with_reducible repeat (first | apply Kd.R_alloc | apply Kd.R_drewN | apply Kd.R_drew)); exact Kd.R_mono HO_7.out (fun _ hk => hk.1)⟩, ⟨by (with_reducible repeat (first | apply Kd.R_alloc | apply Kd.R_drewN | apply Kd.R_drew)); exact Kd.R_mono HO_8.out (fun _ hk => hk.1)⟩, ⟨by repeat (first | (with_reducible first | exact HB.out | apply below_alloc | apply pw_below_drewN | apply below_drew1) | exact HB.out)⟩⟩
                    · rw [if_neg c19] at H
                      have c19b0 : (t148 == 0) = false := beq_eq_false_iff_ne.mpr c19
                      have c19b1 : (t148 != 0) = true := bne_iff_ne.mpr c19
                      have H' := Aside0.mk H
                      clear H
                      have p146 : 0 ≤ (x28_2 : Int) := of_decide_eq_true (by first | (with_reducible assumption) | assumption)
                      have q146 : x28_2 < (l1.length : Int) := of_decide_eq_true (by first | (with_reducible assumption) | assumption)
                      obtain ⟨ad146, e146, hx146_0⟩ := Kd.at_string HR1.out x28_2 p146 q146
                      cases e146
                      replace hx146_0 := (HB.out.cell (World.block_lt_of_cell? w _ hx146_0)).trans hx146_0
                      replace p146 := eq_true p146
                      replace q146 := eq_true q146
                      go_wp2_with (first | ((with_reducible refine gate_callee (f := 24) rfl ?_); refine goesL_ (some 34) rfl rfl Tryd.func24 (by kernel_rfl) rfl #[.string (rdOf ByteArray.empty l1 x28_2)] rfl (by (try simp only [List.map_toArray, List.map_cons, List.map_nil]); first | done | rfl | (simp only [List.length_drop, List.length_take]; rfl)) ?_; (with_reducible refine (paths_Split.calls k2 (rdOf ByteArray.empty l1 x28_2) t147 t148 _ A18.out).mono ?_); rintro e w30 ⟨v149, rfl, ho0, hb⟩; refine ⟨_, rfl, ?_⟩; have n0_ := Aside0.mk (Kd.R_elder' (by (with_reducible repeat (first | apply Kd.R_alloc | apply Kd.R_drewN | apply Kd.R_drew)); exact HO_7.out) (Kd.R_base ho0) hb); have n1_ := Aside0.mk (Kd.R_elder' (by (with_reducible repeat (first | apply Kd.R_alloc | apply Kd.R_drewN | apply Kd.R_drew)); exact HO_8.out) (Kd.R_base ho0) hb); have n2_ := Aside0.mk (Kd.R_lower (Kd.R_new' (Kd.R_new' ho0 (Kd.R_lt (by (with_reducible repeat (first | apply Kd.R_alloc | apply Kd.R_drewN | apply Kd.R_drew)); exact HO_7.out))) (Kd.R_lt (by (with_reducible repeat (first | apply Kd.R_alloc | apply Kd.R_drewN | apply Kd.R_drew)); exact HO_8.out))) (below_size (by repeat (first | (with_reducible first | exact HB.out | apply below_alloc | apply pw_below_drewN | apply below_drew1) | exact HB.out)))); have n3_ := Aside0.mk (below_step (by repeat (first | (with_reducible first | exact HB.out | apply below_alloc | apply pw_below_drewN | apply below_drew1) | exact HB.out)) hb); clear HO_7; clear HO_8; clear HB; have HO_7 := n0_; have HO_8 := n1_; have HO150 := n2_; have HB := n3_; clear n0_ n1_ n2_ n3_; (try clear hb); (try clear hb2); (try clear hk); (try clear hi); (try clear ho0)))
                      go_roundg k2
                      case measure => have := HJ4.out; have := HK2.out; omega
                      case rel => exact ⟨(x8_2), (wrap64 (x28_2 + 1)), (by first | rfl | (simp; done) | (simp [*]; done) | exact gw_ne _ | exact gw_eq _), H', ⟨by have := HJ4.out; have := HK2.out; omega⟩, ⟨by (with_reducible repeat (first | apply Kd.R_alloc | apply Kd.R_drewN | apply Kd.R_drew)); exact Kd.R_mono HO_7.out (fun _ hk => hk.1)⟩, ⟨by (with_reducible repeat (first | apply Kd.R_alloc | apply Kd.R_drewN | apply Kd.R_drew)); exact Kd.R_mono HO_8.out (fun _ hk => hk.1)⟩, ⟨by repeat (first | (with_reducible first | exact HB.out | apply below_alloc | apply pw_below_drewN | apply below_drew1) | exact HB.out)⟩⟩
                  · rw [if_neg c17] at H
                    exact absurd H (by simp)
                · rw [if_neg c16] at H
                  exact absurd H (by simp)
              · rw [if_neg c15] at H
                have c15b0 : decide (x28_2 < (l1.length : Int)) = false := decide_eq_false c15
                clear c15
                obtain rfl := Option.some.inj H
                go_wp2
                go_ret
                exact ⟨_, by first | rfl | (simp [errW_none, errW_some] <;> rfl) | (simp [*, errW_none, errW_some] <;> rfl), by (with_reducible repeat (first | apply Kd.R_alloc | apply Kd.R_drewN | apply Kd.R_drew)); exact Kd.R_mono HO_8.out (fun _ hk => trivial), by repeat (first | (with_reducible first | exact HB.out | apply below_alloc | apply pw_below_drewN | apply below_drew1) | exact HB.out)⟩
  · replace c4 := Bool.eq_false_iff.mpr c4
    subst c4
    have H1 : (some ([] : List ByteArray)) = some r := by rw [if_neg (show ¬ (false = true) by decide)] at H; exact H
    clear H
    have H := H1
    clear H1
    obtain rfl := Option.some.inj H
    go_enter Tryd.func13, Tryd.ntmps13
    go_wp2_with (first | ((with_reducible refine gate_callee (f := 20) rfl ?_); refine goesL_ (some 15) rfl rfl Tryd.func20 (by kernel_rfl) rfl #[.string a0, .string (⟨#[47]⟩ : ByteArray)] rfl (by (try simp only [List.map_toArray, List.map_cons, List.map_nil]); first | done | rfl | (simp only [List.length_drop, List.length_take]; rfl)) ?_; (with_reducible refine (strings_CutPrefix.calls a0 (⟨#[47]⟩ : ByteArray) t140 false _ A3.out).mono ?_); rintro e w' ⟨rfl, ⟨nd, rfl⟩⟩; refine ⟨_, rfl, ?_⟩))
    go_ret
    exact ⟨_, by first | rfl | (simp [errW_none, errW_some] <;> rfl) | (simp [*, errW_none, errW_some] <;> rfl), by first | exact Kd.R_nil _ _ _ _ _ | exact Kd.N_nil _ _ _ _ _ | exact Kd.V_nil _ _ _ _ _ | exact Kd.Q_nil _ _ _ _ _ | exact Kd.S_nil _ _ _ _ _, by repeat (first | (with_reducible first | exact HB.out | apply below_alloc | apply pw_below_drewN | apply below_drew1) | exact HB.out)⟩

/-! ### wainwrightlaw28_lives: function 6 -/
def wainwrightlaw28_lives.f (k : Nat)  : Option (Bool) := (glob_Match.f k (⟨#[97, 42, 46, 91, 99, 104, 93]⟩ : ByteArray) (⟨#[97, 98, 99, 46, 99]⟩ : ByteArray)).bind fun t155 => (if t155 = true then ((glob_Match.f k (⟨#[97, 42, 46, 91, 99, 104, 93]⟩ : ByteArray) (⟨#[97, 46, 99, 99]⟩ : ByteArray)).bind fun t156 => (if t156 = true then (some false) else ((glob_Right.f k (⟨#[97]⟩ : ByteArray)).bind fun t157 => (if t157 = true then ((glob_Paths.f k (⟨#[47, 97, 47, 63]⟩ : ByteArray) (([(⟨#[47, 97, 47, 98]⟩ : ByteArray), (⟨#[47, 97]⟩ : ByteArray)] : List ByteArray))).bind fun t161 => (some ((t161.length : Int) == 1))) else (some false))))) else (some false))
theorem wainwrightlaw28_lives.mono : ∀ k, LeO (wainwrightlaw28_lives.f k ) (wainwrightlaw28_lives.f (k + 1) ) := by
  intro  k
  unfold wainwrightlaw28_lives.f
  repeat' first
      | (with_reducible exact glob_Match.mono _ _ _)
      | (with_reducible exact glob_Paths.mono _ _ _)
      | (with_reducible exact glob_Right.mono _ _)
      | (with_reducible exact LeO.refl _)
      | (with_reducible exact LeO.none _)
      | (with_reducible refine LeO.ite ?_ ?_)
      | (with_reducible refine LeO.bind ?_ (fun _ => ?_))
      | exact glob_Match.mono _ _ _
      | exact glob_Paths.mono _ _ _
      | exact glob_Right.mono _ _
      | exact LeO.none _
      | refine LeO.ite ?_ ?_
      | refine LeO.bind ?_ (fun _ => ?_)
set_option maxHeartbeats 8000000 in
set_option maxRecDepth 100000 in
theorem wainwrightlaw28_lives.calls (k : Nat)  (r : Bool) (w : World) (h : wainwrightlaw28_lives.f k  = some r) :
    Calls Tryd.prog 6 #[] w fun e w' => e = .returned (.bool r) ∧ Below w.heap.size w w' := by
  have HB := Aside0.mk (Below.refl w.heap.size w)
  have H : ((glob_Match.f k (⟨#[97, 42, 46, 91, 99, 104, 93]⟩ : ByteArray) (⟨#[97, 98, 99, 46, 99]⟩ : ByteArray)).bind fun t155 => (if t155 = true then ((glob_Match.f k (⟨#[97, 42, 46, 91, 99, 104, 93]⟩ : ByteArray) (⟨#[97, 46, 99, 99]⟩ : ByteArray)).bind fun t156 => (if t156 = true then (some false) else ((glob_Right.f k (⟨#[97]⟩ : ByteArray)).bind fun t157 => (if t157 = true then ((glob_Paths.f k (⟨#[47, 97, 47, 63]⟩ : ByteArray) (([(⟨#[47, 97, 47, 98]⟩ : ByteArray), (⟨#[47, 97]⟩ : ByteArray)] : List ByteArray))).bind fun t161 => (some ((t161.length : Int) == 1))) else (some false))))) else (some false))) = some r := h
  clear h
  replace H := Option.bind_eq_some_iff.mp H
  obtain ⟨t155, A10, H⟩ := H
  replace H : (if t155 = true then ((glob_Match.f k (⟨#[97, 42, 46, 91, 99, 104, 93]⟩ : ByteArray) (⟨#[97, 46, 99, 99]⟩ : ByteArray)).bind fun t156 => (if t156 = true then (some false) else ((glob_Right.f k (⟨#[97]⟩ : ByteArray)).bind fun t157 => (if t157 = true then ((glob_Paths.f k (⟨#[47, 97, 47, 63]⟩ : ByteArray) (([(⟨#[47, 97, 47, 98]⟩ : ByteArray), (⟨#[47, 97]⟩ : ByteArray)] : List ByteArray))).bind fun t161 => (some ((t161.length : Int) == 1))) else (some false))))) else (some false)) = some r := H
  have A1 := Aside0.mk A10
  clear A10
  by_cases c2 : t155 = true
  · subst c2
    have H1 : ((glob_Match.f k (⟨#[97, 42, 46, 91, 99, 104, 93]⟩ : ByteArray) (⟨#[97, 46, 99, 99]⟩ : ByteArray)).bind fun t156 => (if t156 = true then (some false) else ((glob_Right.f k (⟨#[97]⟩ : ByteArray)).bind fun t157 => (if t157 = true then ((glob_Paths.f k (⟨#[47, 97, 47, 63]⟩ : ByteArray) (([(⟨#[47, 97, 47, 98]⟩ : ByteArray), (⟨#[47, 97]⟩ : ByteArray)] : List ByteArray))).bind fun t161 => (some ((t161.length : Int) == 1))) else (some false))))) = some r := by rw [if_pos rfl] at H; exact H
    clear H
    have H := H1
    clear H1
    replace H := Option.bind_eq_some_iff.mp H
    obtain ⟨t156, A30, H⟩ := H
    replace H : (if t156 = true then (some false) else ((glob_Right.f k (⟨#[97]⟩ : ByteArray)).bind fun t157 => (if t157 = true then ((glob_Paths.f k (⟨#[47, 97, 47, 63]⟩ : ByteArray) (([(⟨#[47, 97, 47, 98]⟩ : ByteArray), (⟨#[47, 97]⟩ : ByteArray)] : List ByteArray))).bind fun t161 => (some ((t161.length : Int) == 1))) else (some false)))) = some r := H
    have A3 := Aside0.mk A30
    clear A30
    by_cases c4 : t156 = true
    · subst c4
      have H1 : (some false) = some r := by rw [if_pos rfl] at H; exact H
      clear H
      have H := H1
      clear H1
      obtain rfl := Option.some.inj H
      go_enter Tryd.func6, Tryd.ntmps6
      go_wp2_with (first | ((with_reducible refine gate_callee (f := 10) rfl ?_); refine goesL_ (some 1) rfl rfl Tryd.func10 (by kernel_rfl) rfl #[.string (⟨#[97, 42, 46, 91, 99, 104, 93]⟩ : ByteArray), .string (⟨#[97, 98, 99, 46, 99]⟩ : ByteArray)] rfl (by (try simp only [List.map_toArray, List.map_cons, List.map_nil]); first | done | rfl | (simp only [List.length_drop, List.length_take]; rfl)) ?_; (with_reducible refine (glob_Match.calls k (⟨#[97, 42, 46, 91, 99, 104, 93]⟩ : ByteArray) (⟨#[97, 98, 99, 46, 99]⟩ : ByteArray) true _ A1.out).mono ?_); rintro e w5 ⟨rfl, hb⟩; refine ⟨_, rfl, ?_⟩; have n0_ := Aside0.mk (below_step (by repeat (first | (with_reducible first | exact HB.out | apply below_alloc | apply pw_below_drewN | apply below_drew1) | exact HB.out)) hb); clear HB; have HB := n0_; clear n0_; (try clear hb); (try clear hb2); (try clear hk); (try clear hi)) | (go_at_call 10; (with_reducible refine (glob_Match.calls k (⟨#[97, 42, 46, 91, 99, 104, 93]⟩ : ByteArray) (⟨#[97, 46, 99, 99]⟩ : ByteArray) true _ A3.out).mono ?_); rintro e w6 ⟨rfl, hb⟩; have n0_ := Aside0.mk (below_step (by repeat (first | (with_reducible first | exact HB.out | apply below_alloc | apply pw_below_drewN | apply below_drew1) | exact HB.out)) hb); clear HB; have HB := n0_; clear n0_; (try clear hb); (try clear hb2); (try clear hk); (try clear hi)))
      go_ret
      exact ⟨by first | rfl | (simp [errW_none, errW_some] <;> rfl) | (simp [*, errW_none, errW_some] <;> rfl), by repeat (first | (with_reducible first | exact HB.out | apply below_alloc | apply pw_below_drewN | apply below_drew1) | exact HB.out)⟩
    · replace c4 := Bool.eq_false_iff.mpr c4
      subst c4
      have H1 : ((glob_Right.f k (⟨#[97]⟩ : ByteArray)).bind fun t157 => (if t157 = true then ((glob_Paths.f k (⟨#[47, 97, 47, 63]⟩ : ByteArray) (([(⟨#[47, 97, 47, 98]⟩ : ByteArray), (⟨#[47, 97]⟩ : ByteArray)] : List ByteArray))).bind fun t161 => (some ((t161.length : Int) == 1))) else (some false))) = some r := by rw [if_neg (show ¬ (false = true) by decide)] at H; exact H
      clear H
      have H := H1
      clear H1
      replace H := Option.bind_eq_some_iff.mp H
      obtain ⟨t157, A70, H⟩ := H
      replace H : (if t157 = true then ((glob_Paths.f k (⟨#[47, 97, 47, 63]⟩ : ByteArray) (([(⟨#[47, 97, 47, 98]⟩ : ByteArray), (⟨#[47, 97]⟩ : ByteArray)] : List ByteArray))).bind fun t161 => (some ((t161.length : Int) == 1))) else (some false)) = some r := H
      have A7 := Aside0.mk A70
      clear A70
      by_cases c8 : t157 = true
      · subst c8
        have H1 : ((glob_Paths.f k (⟨#[47, 97, 47, 63]⟩ : ByteArray) (([(⟨#[47, 97, 47, 98]⟩ : ByteArray), (⟨#[47, 97]⟩ : ByteArray)] : List ByteArray))).bind fun t161 => (some ((t161.length : Int) == 1))) = some r := by rw [if_pos rfl] at H; exact H
        clear H
        have H := H1
        clear H1
        obtain ⟨y158, hy158⟩ : ∃ y_ : List ByteArray, y_ = (([(⟨#[47, 97, 47, 98]⟩ : ByteArray), (⟨#[47, 97]⟩ : ByteArray)] : List ByteArray)) := ⟨_, rfl⟩
        replace H : ((glob_Paths.f k (⟨#[47, 97, 47, 63]⟩ : ByteArray) y158).bind fun t161 => (some ((t161.length : Int) == 1))) = some r := by first | (rw [hy158]; with_reducible exact H) | (have H2_ := (Option.bind_some _ _).symm.trans H; rw [hy158]; with_reducible exact H2_) | (have H2_ := (Option.bind_some _ _).symm.trans H; with_reducible exact H2_) | with_reducible exact H | (rw [hy158]; exact H) | exact H
        have Ny158 := Aside0.mk hy158
        clear hy158
        replace H := Option.bind_eq_some_iff.mp H
        obtain ⟨t161, A90, H⟩ := H
        replace H : (some ((t161.length : Int) == 1)) = some r := H
        have A9 := Aside0.mk A90
        clear A90
        obtain rfl := Option.some.inj H
        go_enter Tryd.func6, Tryd.ntmps6
        go_wp2_with (first | ((with_reducible refine gate_callee (f := 10) rfl ?_); refine goesL_ (some 1) rfl rfl Tryd.func10 (by kernel_rfl) rfl #[.string (⟨#[97, 42, 46, 91, 99, 104, 93]⟩ : ByteArray), .string (⟨#[97, 98, 99, 46, 99]⟩ : ByteArray)] rfl (by (try simp only [List.map_toArray, List.map_cons, List.map_nil]); first | done | rfl | (simp only [List.length_drop, List.length_take]; rfl)) ?_; (with_reducible refine (glob_Match.calls k (⟨#[97, 42, 46, 91, 99, 104, 93]⟩ : ByteArray) (⟨#[97, 98, 99, 46, 99]⟩ : ByteArray) true _ A1.out).mono ?_); rintro e w10 ⟨rfl, hb⟩; refine ⟨_, rfl, ?_⟩; have n0_ := Aside0.mk (below_step (by repeat (first | (with_reducible first | exact HB.out | apply below_alloc | apply pw_below_drewN | apply below_drew1) | exact HB.out)) hb); clear HB; have HB := n0_; clear n0_; (try clear hb); (try clear hb2); (try clear hk); (try clear hi)) | (go_at_call 10; (with_reducible refine (glob_Match.calls k (⟨#[97, 42, 46, 91, 99, 104, 93]⟩ : ByteArray) (⟨#[97, 46, 99, 99]⟩ : ByteArray) false _ A3.out).mono ?_); rintro e w11 ⟨rfl, hb⟩; have n0_ := Aside0.mk (below_step (by repeat (first | (with_reducible first | exact HB.out | apply below_alloc | apply pw_below_drewN | apply below_drew1) | exact HB.out)) hb); clear HB; have HB := n0_; clear n0_; (try clear hb); (try clear hb2); (try clear hk); (try clear hi)) | (go_at_call 9; (with_reducible refine (glob_Right.calls k (⟨#[97]⟩ : ByteArray) true _ A7.out).mono ?_); rintro e w12 ⟨rfl, hb⟩; have n0_ := Aside0.mk (below_step (by repeat (first | (with_reducible first | exact HB.out | apply below_alloc | apply pw_below_drewN | apply below_drew1) | exact HB.out)) hb); clear HB; have HB := n0_; clear n0_; (try clear hb); (try clear hb2); (try clear hk); (try clear hi)) | ((with_reducible refine gate_dst (N := 10) rfl ?_); (try (refine gate_guard (by rfl) ?_; dsimp only)); refine Kd.R_lit Kd.string _ 9 ?hg (N := 10) ?hd (xs := ([(⟨#[47, 97, 47, 98]⟩ : ByteArray), (⟨#[47, 97]⟩ : ByteArray)] : List ByteArray)) (inner := [.string (⟨#[47, 97, 47, 98]⟩ : ByteArray), .string (⟨#[47, 97]⟩ : ByteArray)]) (ok := fun _ => True) (okp := fun _ => True) ?hr ?hp (fun _ hk => hk) trivial (Below.refl _ _) (Nat.le_refl _) (by simp) ?_; (case hd => rfl); (case hg => rfl); (case hr => first | (go_simp; done) | (go_simp; rfl)); (case hp => exact (Reps.one (show Kd.M Kd.string _ _ _ (⟨#[47, 97, 47, 98]⟩ : ByteArray) [.string (⟨#[47, 97, 47, 98]⟩ : ByteArray)] from rfl) (Reps.one (show Kd.M Kd.string _ _ _ (⟨#[47, 97]⟩ : ByteArray) [.string (⟨#[47, 97]⟩ : ByteArray)] from rfl) (Reps.none _ _)))); intro v159 w13 ho14 hb hg_ hnew_; clear hg_ hnew_; (first | rw [← Ny158.out] at ho14 | (simp only [Int.reduceToNat] at ho14; rw [← Ny158.out] at ho14)); have n0_ := Aside0.mk (Kd.R_lower ho14 (below_size (by repeat (first | (with_reducible first | exact HB.out | apply below_alloc | apply pw_below_drewN | apply below_drew1) | exact HB.out)))); have n1_ := Aside0.mk (below_step (by repeat (first | (with_reducible first | exact HB.out | apply below_alloc | apply pw_below_drewN | apply below_drew1) | exact HB.out)) hb); clear HB; have HO160 := n0_; have HB := n1_; clear n0_ n1_; clear hb ho14; obtain ⟨Ao15, co15, eo15⟩ := Kd.R_slice HO160.out; subst eo15) | (go_at_call 13; (with_reducible refine (glob_Paths.calls k (⟨#[47, 97, 47, 63]⟩ : ByteArray) _ _ y158 t161 _ ?side1 ?side2 A9.out).mono ?_); (case side1 => repeat (first | exact (Kd.R_reads' HO160.out).2.2 | (with_reducible refine Kd.C_alloc ?_ _) | (with_reducible refine Kd.C_drewN ?_ _) | (with_reducible refine Kd.C_drew ?_))); (case side2 => exact (Kd.R_reads' HO160.out).2.1); rintro e w16 ⟨v162, rfl, ho0, hb⟩; have n0_ := Aside0.mk (Kd.R_elder' (by (with_reducible repeat (first | apply Kd.R_alloc | apply Kd.R_drewN | apply Kd.R_drew)); exact HO160.out) (Kd.R_base ho0) hb); have n1_ := Aside0.mk (Kd.R_lower (Kd.R_new' ho0 (Kd.R_lt (by (with_reducible repeat (first | apply Kd.R_alloc | apply Kd.R_drewN | apply Kd.R_drew)); exact HO160.out))) (below_size (by repeat (first | (with_reducible first | exact HB.out | apply below_alloc | apply pw_below_drewN | apply below_drew1) | exact HB.out)))); have n2_ := Aside0.mk (below_step (by repeat (first | (with_reducible first | exact HB.out | apply below_alloc | apply pw_below_drewN | apply below_drew1) | exact HB.out)) hb); clear HO160; clear HB; have HO160 := n0_; have HO163 := n1_; have HB := n2_; clear n0_ n1_ n2_; (try clear hb); (try clear hb2); (try clear hk); (try clear hi); (try clear ho0); obtain ⟨Ao17, co17, eo17⟩ := Kd.R_slice HO163.out; subst eo17))
        go_ret
        exact ⟨by first | rfl | (simp [errW_none, errW_some] <;> rfl) | (simp [*, errW_none, errW_some] <;> rfl), by repeat (first | (with_reducible first | exact HB.out | apply below_alloc | apply pw_below_drewN | apply below_drew1) | exact HB.out)⟩
      · replace c8 := Bool.eq_false_iff.mpr c8
        subst c8
        have H1 : (some false) = some r := by rw [if_neg (show ¬ (false = true) by decide)] at H; exact H
        clear H
        have H := H1
        clear H1
        obtain rfl := Option.some.inj H
        go_enter Tryd.func6, Tryd.ntmps6
        go_wp2_with (first | ((with_reducible refine gate_callee (f := 10) rfl ?_); refine goesL_ (some 1) rfl rfl Tryd.func10 (by kernel_rfl) rfl #[.string (⟨#[97, 42, 46, 91, 99, 104, 93]⟩ : ByteArray), .string (⟨#[97, 98, 99, 46, 99]⟩ : ByteArray)] rfl (by (try simp only [List.map_toArray, List.map_cons, List.map_nil]); first | done | rfl | (simp only [List.length_drop, List.length_take]; rfl)) ?_; (with_reducible refine (glob_Match.calls k (⟨#[97, 42, 46, 91, 99, 104, 93]⟩ : ByteArray) (⟨#[97, 98, 99, 46, 99]⟩ : ByteArray) true _ A1.out).mono ?_); rintro e w18 ⟨rfl, hb⟩; refine ⟨_, rfl, ?_⟩; have n0_ := Aside0.mk (below_step (by repeat (first | (with_reducible first | exact HB.out | apply below_alloc | apply pw_below_drewN | apply below_drew1) | exact HB.out)) hb); clear HB; have HB := n0_; clear n0_; (try clear hb); (try clear hb2); (try clear hk); (try clear hi)) | (go_at_call 10; (with_reducible refine (glob_Match.calls k (⟨#[97, 42, 46, 91, 99, 104, 93]⟩ : ByteArray) (⟨#[97, 46, 99, 99]⟩ : ByteArray) false _ A3.out).mono ?_); rintro e w19 ⟨rfl, hb⟩; have n0_ := Aside0.mk (below_step (by repeat (first | (with_reducible first | exact HB.out | apply below_alloc | apply pw_below_drewN | apply below_drew1) | exact HB.out)) hb); clear HB; have HB := n0_; clear n0_; (try clear hb); (try clear hb2); (try clear hk); (try clear hi)) | (go_at_call 9; (with_reducible refine (glob_Right.calls k (⟨#[97]⟩ : ByteArray) false _ A7.out).mono ?_); rintro e w20 ⟨rfl, hb⟩; have n0_ := Aside0.mk (below_step (by repeat (first | (with_reducible first | exact HB.out | apply below_alloc | apply pw_below_drewN | apply below_drew1) | exact HB.out)) hb); clear HB; have HB := n0_; clear n0_; (try clear hb); (try clear hb2); (try clear hk); (try clear hi)))
        go_ret
        exact ⟨by first | rfl | (simp [errW_none, errW_some] <;> rfl) | (simp [*, errW_none, errW_some] <;> rfl), by repeat (first | (with_reducible first | exact HB.out | apply below_alloc | apply pw_below_drewN | apply below_drew1) | exact HB.out)⟩
  · replace c2 := Bool.eq_false_iff.mpr c2
    subst c2
    have H1 : (some false) = some r := by rw [if_neg (show ¬ (false = true) by decide)] at H; exact H
    clear H
    have H := H1
    clear H1
    obtain rfl := Option.some.inj H
    go_enter Tryd.func6, Tryd.ntmps6
    go_wp2_with (first | ((with_reducible refine gate_callee (f := 10) rfl ?_); refine goesL_ (some 1) rfl rfl Tryd.func10 (by kernel_rfl) rfl #[.string (⟨#[97, 42, 46, 91, 99, 104, 93]⟩ : ByteArray), .string (⟨#[97, 98, 99, 46, 99]⟩ : ByteArray)] rfl (by (try simp only [List.map_toArray, List.map_cons, List.map_nil]); first | done | rfl | (simp only [List.length_drop, List.length_take]; rfl)) ?_; (with_reducible refine (glob_Match.calls k (⟨#[97, 42, 46, 91, 99, 104, 93]⟩ : ByteArray) (⟨#[97, 98, 99, 46, 99]⟩ : ByteArray) false _ A1.out).mono ?_); rintro e w21 ⟨rfl, hb⟩; refine ⟨_, rfl, ?_⟩; have n0_ := Aside0.mk (below_step (by repeat (first | (with_reducible first | exact HB.out | apply below_alloc | apply pw_below_drewN | apply below_drew1) | exact HB.out)) hb); clear HB; have HB := n0_; clear n0_; (try clear hb); (try clear hb2); (try clear hk); (try clear hi)))
    go_ret
    exact ⟨by first | rfl | (simp [errW_none, errW_some] <;> rfl) | (simp [*, errW_none, errW_some] <;> rfl), by repeat (first | (with_reducible first | exact HB.out | apply below_alloc | apply pw_below_drewN | apply below_drew1) | exact HB.out)⟩

/-! ### wainwrightlaw28_early: function 7 -/
def wainwrightlaw28_early.f (a0 : ByteArray) : Option (ByteArray) := if 0 ≤ (mn (a0.size : Int) 100) then (if (mn (a0.size : Int) 100) ≤ (a0.size : Int) then (some (a0.extract 0 ((mn (a0.size : Int) 100) : Int).toNat)) else (none)) else (none)
set_option maxHeartbeats 8000000 in
set_option maxRecDepth 100000 in
theorem wainwrightlaw28_early.calls (a0 : ByteArray) (r : ByteArray) (w : World) (h : wainwrightlaw28_early.f a0 = some r) :
    Calls Tryd.prog 7 #[.string a0] w fun e w' => e = .returned (.string r) ∧ Below w.heap.size w w' := by
  have HB := Aside0.mk (Below.refl w.heap.size w)
  have H : (if 0 ≤ (mn (a0.size : Int) 100) then (if (mn (a0.size : Int) 100) ≤ (a0.size : Int) then (some (a0.extract 0 ((mn (a0.size : Int) 100) : Int).toNat)) else (none)) else (none)) = some r := h
  clear h
  obtain ⟨ji2, hji2⟩ : ∃ j_ : Int, (mn (a0.size : Int) 100) = j_ := ⟨_, rfl⟩
  replace H : (if 0 ≤ (ji2) then (if (ji2) ≤ (a0.size : Int) then (some (a0.extract 0 ((ji2) : Int).toNat)) else (none)) else (none)) = some r := by first | (rw [hji2] at H; exact H) | (simp only [hji2] at H ⊢; exact H)
  (try (have hji2h : ji2 ≤ 100 := by (rw [← hji2]; unfold mn; (repeat' split) <;> omega)))
  (try (have hji2g : ji2 ≤ 64 := by omega))
  (try (have hji2l : 0 ≤ ji2 := by (rw [← hji2]; unfold mn; (repeat' split) <;> omega)))
  (try (have hji2m : 0 ≤ ji2 := by omega))
  have hji2_ : (if 100 < (a0.size : Int) then 100 else (a0.size : Int)) = ji2 := hji2
  by_cases c3 : 0 ≤ (ji2)
  · rw [if_pos c3] at H
    have c3b0 := eq_true c3
    have c3b1 : decide (0 ≤ (ji2)) = true := decide_eq_true c3
    clear c3
    by_cases c4 : (ji2) ≤ (a0.size : Int)
    · rw [if_pos c4] at H
      have c4b0 := eq_true c4
      have c4b1 : decide ((ji2) ≤ (a0.size : Int)) = true := decide_eq_true c4
      clear c4
      obtain rfl := Option.some.inj H
      go_enter Tryd.func7, Tryd.ntmps7
      go_wp2
      go_ret
      exact ⟨by first | rfl | (simp [errW_none, errW_some] <;> rfl) | (simp only [← hji2]; first | rfl | (simp [errW_none, errW_some] <;> rfl)) | (simp [*, errW_none, errW_some] <;> rfl), by repeat (first | (with_reducible first | exact HB.out | apply below_alloc | apply pw_below_drewN | apply below_drew1) | exact HB.out)⟩
    · rw [if_neg c4] at H
      exact absurd H (by simp)
  · rw [if_neg c3] at H
    exact absurd H (by simp)

end Go.Proofs.YtefomcoimbnalaaDoor.GGlb
