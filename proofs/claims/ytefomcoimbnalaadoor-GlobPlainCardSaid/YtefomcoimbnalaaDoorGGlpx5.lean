/- printed for this claim by gprint.py, a program of this session, that drives the kit's printer. -/
import Derived.Test.YtefomcoimbnalaaDoorGGlpx0
import Derived.Test.YtefomcoimbnalaaDoorGGlpx1
import Derived.Test.YtefomcoimbnalaaDoorGGlpx3
import Derived.Test.YtefomcoimbnalaaDoorGGlpx4
namespace Go.Proofs.YtefomcoimbnalaaDoor.GGlp
open Go.RowKit Go.Proofs.YtefomcoimbnalaaDoorW.PrintWords Go.Proofs.YtefomcoimbnalaaDoorW.PrintLast Go.Proofs.YtefomcoimbnalaaDoorW.PrintMore
attribute [local go_sem] max2_int min2_int max_two min_two max_three min_three max_four min_four   -- for this text's walks alone
set_option linter.unusedVariables false
set_option linter.unusedSimpArgs false

/-! ### glob_Plain: function 12 -/
def glob_Plain.last (x : ByteArray) : UInt8 := x.data.toList.getLast?.getD 0
def glob_Plain.go : List ByteArray → List UInt8 → Bool → Option (ByteArray × Bool)
  | [], acc, ok => if ok = true then (some ((⟨acc.toArray⟩ : ByteArray), true)) else (some ((⟨#[]⟩ : ByteArray), false))
  | x :: r, acc, ok => if 0 < x.size then (if x.size ≤ 140737488355328 then (if acc.length < 1000000 then (if 0 ≤ Lib.indexByte [42, 63, 91] (bt x 0).toNat.toUInt8 then (some ((⟨#[]⟩ : ByteArray), false)) else (glob_Plain.go r (acc ++ [glob_Plain.last x]) ok)) else (none)) else (none)) else (none)
def glob_Plain.f (k : Nat) (a0 : ByteArray) : Option (ByteArray × Bool) := (glob_parts.f k a0).bind fun b => glob_Plain.go b.1 [] b.2
theorem glob_Plain.mono : ∀ a0 k, LeO (glob_Plain.f k a0) (glob_Plain.f (k + 1) a0) := fun a0 k => LeO.bind (glob_parts.mono a0 k) (fun _ => LeO.refl _)
theorem glob_Plain.cells (acc : List UInt8) (b : UInt8) : Lib.byteCells (acc ++ [b]) = Lib.byteCells acc ++ [.int .u8 (b.toNat : Int)] := by simp [Lib.byteCells]
theorem glob_Plain.last_bt (x : ByteArray) (h : 0 < x.size) (h2 : x.size ≤ 140737488355328) : bt x (wrap64 ((x.size : Int) - 1)) = ((glob_Plain.last x).toNat : Int) := by
  have e : wrap64 ((x.size : Int) - 1) = ((x.size - 1 : Nat) : Int) := by simp only [wrap64]; omega
  have hs : x.data.toList.length = x.size := by rw [Array.length_toList]; rfl
  rw [e]
  unfold bt glob_Plain.last
  have hl : ((x.size - 1 : Nat) : Int).toNat < x.size := by omega
  rw [dif_pos hl, List.getLast?_eq_getElem?, hs, List.getElem?_eq_getElem (by omega)]
  show (((x.data[((x.size - 1 : Nat) : Int).toNat]'_).toNat : Nat) : Int) = _
  simp
set_option maxHeartbeats 4000000 in
set_option maxRecDepth 100000 in
theorem glob_Plain.calls (k : Nat) (a0 : ByteArray) (r1 : ByteArray) (r2 : Bool) (w : World) (h : glob_Plain.f k a0 = some (r1, r2)) :
    Calls Tryd.prog 12 #[.string a0] w fun e w' => e = .returned (.tuple #[.string r1, .bool r2]) ∧ Below w.heap.size w w' := by
  obtain ⟨⟨l0, ok⟩, hp, h⟩ := Option.bind_eq_some_iff.1 h
  have CP := Aside0.mk (fun W => glob_parts.calls k a0 l0 ok W hp)
  clear hp
  have H := Aside0.mk (show glob_Plain.go l0 [] ok = some (r1, r2) from h)
  clear h
  go_enter Tryd.func12, Tryd.ntmps12
  go_wp2_with (go_at_call 15; (with_reducible refine (CP.out _).mono ?_); rintro e w1 ⟨v0, rfl, hr, hb⟩; have HR0 := Aside0.mk hr; have HB0 := Aside0.mk hb; clear hr hb; obtain ⟨A0, c0, e0⟩ := Kd.R_slice HR0.out; subst e0)
  have hmax := (Kd.R_reads' HR0.out).2.2.2.1
  have HRC := Aside0.mk ((Kd.R_reads' HR0.out).2.2)
  clear HR0
  have hB1 := HB0.out.size
  go_loopg [16] l0.length (fun kq v16 wx => ∃ (i : Nat) (acc : List UInt8), v16 = .int .i64 (i : Int) ∧ i ≤ l0.length ∧ l0.length ≤ i + kq ∧ Aside0 (glob_Plain.go (l0.drop i) acc ok = some (r1, r2)) ∧ Aside0 (Lib.IsBuilder 45 5 w1.heap.size w1.heap.size (Lib.byteCells acc) wx) ∧ Aside0 (Below w1.heap.size w1 wx))
  case atStart => exact ⟨0, [], rfl, Nat.zero_le _, by omega, H, ⟨Lib.fresh_isBuilder _ _ w1⟩, ⟨by repeat (first | exact Below.refl _ _ | apply below_alloc | apply pw_below_drewN | apply below_drew1)⟩⟩
  case round =>
    obtain ⟨i, acc, rfl, hi, hfu, HA, HBU, HB⟩ := hrel
    by_cases hlt : i < l0.length
    · obtain ⟨k1, rfl⟩ : ∃ k1, gk = k1 + 1 := ⟨gk - 1, by omega⟩
      have hd : l0.drop i = l0[i] :: l0.drop (i + 1) := List.drop_eq_getElem_cons hlt
      have hh := HA.out
      rw [hd] at hh
      clear HA hd
      have hltI : decide ((i : Int) < (l0.length : Int)) = true := decide_eq_true (by omega)
      have p1 : 0 ≤ (i : Int) := by omega
      have q1 : (i : Int) < (l0.length : Int) := by omega
      obtain ⟨ad, e1, hx⟩ := Kd.at_string (Kd.C_below HRC.out HB.out) (i : Int) p1 q1
      cases e1
      have hv : rdOf ByteArray.empty l0 (i : Int) = l0[i] := by
        simp [rdOf, hlt]
      rw [hv, Int.toNat_natCast] at hx
      generalize l0[i] = X at *
      simp only [glob_Plain.go] at hh
      have hwr : wrap64 ((i : Int) + 1) = ((i + 1 : Nat) : Int) := by
        simp only [wrap64, IntKind.wrap]
        omega
      by_cases g0 : 0 < X.size
      · rw [if_pos g0] at hh
        by_cases g1 : X.size ≤ 140737488355328
        · rw [if_pos g1] at hh
          by_cases g2 : acc.length < 1000000
          · rw [if_pos g2] at hh
            have hlast := glob_Plain.last_bt X g0 g1
            obtain ⟨t, ht⟩ : ∃ t, Lib.indexByte [42, 63, 91] (bt X 0).toNat.toUInt8 = t := ⟨_, rfl⟩
            rw [ht] at hh
            have CI := Aside0.mk (fun W => strings_IndexByte.calls (⟨#[42, 63, 91]⟩ : ByteArray) (bt X 0) t W (by unfold strings_IndexByte.f; exact congrArg some ht))
            clear ht
            have hx4 : ∀ h : 0 < X.size, ((X[0]'h).toNat : Int) = bt X 0 := bt_at X 0
            have qi4 : (0 < (X.size : Int)) = True := eq_true (by omega)
            obtain ⟨j, hj⟩ : ∃ j : Int, wrap64 ((X.size : Int) - 1) = j := ⟨_, rfl⟩
            have hjw : (IntKind.i64.wrap ((X.size : Int) - 1)) = j := (i64_w _).trans hj
            have hjv : j = ((X.size - 1 : Nat) : Int) := by rw [← hj]; simp only [wrap64]; omega
            rw [hj] at hlast
            have p13 : (0 ≤ j) = True := eq_true (by omega)
            have q13 : (j < (X.size : Int)) = True := eq_true (by omega)
            have hx13 := bt_at X j
            rw [hlast] at hx13
            have q4 : (0 < X.size) = True := eq_true g0
            clear hjv hlast
            have HH := Aside0.mk hh
            clear hh
            replace p1 := eq_true p1
            replace q1 := eq_true q1
            by_cases ht0 : 0 ≤ t
            · have htI : decide (0 ≤ t) = true := decide_eq_true ht0
              have HT := Aside0.mk ht0
              clear ht0
              go_wp2_with (go_at_call 17; (with_reducible refine (CI.out _).mono ?_); rintro e w' ⟨rfl, nd, rfl⟩)
              go_ret2
              have hr := HH.out
              rw [if_pos (by have := HT.out; omega)] at hr
              obtain ⟨rfl, rfl⟩ := Prod.mk.inj (Option.some.inj hr)
              exact ⟨rfl, HB0.out.trans ((show Below w1.heap.size w1 _ by repeat (first | exact HB.out | apply below_alloc | apply pw_below_drewN | apply below_drew1)).mono hB1)⟩
            · have htI : decide (0 ≤ t) = false := decide_eq_false ht0
              have HT := Aside0.mk ht0
              clear ht0
              have hlen : (Lib.byteCells acc).length + 1 ≤ 140737488355328 := by unfold Lib.byteCells; rw [List.length_map]; omega
              have hbw := HB.out.size
              have CW := Aside0.mk (fun nd : Nat => Go.Proofs.Tryd.Builder_WriteByte w1.heap.size w1.heap.size (Lib.byteCells acc) ((glob_Plain.last X).toNat : Int) (wr.drewN nd) HBU.out hlen hbw)
              go_wp2_with (first | (go_at_call 17; (with_reducible refine (CI.out _).mono ?_); rintro e w' ⟨rfl, nd, rfl⟩) | (go_at_call 18; (with_reducible refine (CW.out _).mono ?_); rintro e w2 ⟨rfl, hbu, hb2⟩))
              go_roundg k1
              case measure => omega
              case rel => exact ⟨i + 1, acc ++ [glob_Plain.last X], by first | rfl | (rw [hwr]; done), by omega, by omega, ⟨by have hr := HH.out; rw [if_neg (by have := HT.out; omega)] at hr; exact hr⟩, ⟨Or.inr (by rw [glob_Plain.cells]; exact hbu)⟩, ⟨(show Below w1.heap.size w1 (wr.drewN nd) by repeat (first | exact HB.out | apply pw_below_drewN)).trans hb2⟩⟩
          · rw [if_neg g2] at hh; cases hh
        · rw [if_neg g1] at hh; cases hh
      · rw [if_neg g0] at hh; cases hh
    · have hltI : decide ((i : Int) < (l0.length : Int)) = false := decide_eq_false (by omega)
      have hh := HA.out
      rw [List.drop_eq_nil_of_le (by omega)] at hh
      simp only [glob_Plain.go] at hh
      clear HA
      cases ok with
      | false =>
        have HH := Aside0.mk hh
        clear hh
        go_wp2
        go_ret2
        have hr := HH.out
        rw [if_neg (by decide)] at hr
        obtain ⟨rfl, rfl⟩ := Prod.mk.inj (Option.some.inj hr)
        exact ⟨rfl, HB0.out.trans ((show Below w1.heap.size w1 _ by repeat (first | exact HB.out | apply below_alloc | apply pw_below_drewN | apply below_drew1)).mono hB1)⟩
      | true =>
        have HH := Aside0.mk hh
        clear hh
        have hbw := HB.out.size
        have CS := Aside0.mk (fun (W : World) (hW : Lib.IsBuilder 45 5 w1.heap.size w1.heap.size (Lib.byteCells acc) W) (hS : w1.heap.size ≤ W.heap.size) => Go.Proofs.Tryd.Builder_String_any w1.heap.size w1.heap.size acc W hW hS)
        go_wp2_with (go_at_call 19; (with_reducible refine (CS.out _ HBU.out hbw).mono ?_); rintro e w2 ⟨rfl, hb2⟩)
        go_ret2
        have hr := HH.out
        rw [if_pos trivial] at hr
        obtain ⟨rfl, rfl⟩ := Prod.mk.inj (Option.some.inj hr)
        exact ⟨rfl, HB0.out.trans ((HB.out.trans (show Below w1.heap.size _ _ by repeat (first | exact hb2 | apply below_alloc | apply pw_below_drewN | apply below_drew1))).mono hB1)⟩
/-! ### wainwrightlaw28_GlobPlain: function 5 -/
def wainwrightlaw28_GlobPlain.l0 : Nat → ByteArray → ByteArray → ByteArray → Bool → Int → Option (Bool)
  | 0, _, _, _, _, _ => none
  | k + 1, x0, x1, x5, x7, x8 => if x8 < (x0.size : Int) then (if x7 = true then (wainwrightlaw28_GlobPlain.l0 k x0 x1 x5 true (wrap64 (x8 + 1))) else (if 0 ≤ x8 then (wainwrightlaw28_GlobPlain.l0 k x0 x1 x5 ((bt x0 x8) == 92) (wrap64 (x8 + 1))) else (none))) else ((glob_Match.f k x0 x5).bind fun t169 => (if t169 = true then ((glob_Match.f k x0 x1).bind fun t170 => (if ((x1.toList == x5.toList) == t170) = true then (if x7 = true then (some true) else (some (x5.toList == x0.toList))) else (some false))) else (some false)))
def wainwrightlaw28_GlobPlain.f (k : Nat) (a0 : ByteArray) (a1 : ByteArray) : Option (Bool) := (wainwrightlaw28_lives.f k).bind fun t164 => (if t164 = true then ((wainwrightlaw28_early.f a0).bind fun t165 => ((wainwrightlaw28_early.f a1).bind fun t166 => ((glob_Plain.f k t165).bind fun bt167 => (if bt167.2 = true then (wainwrightlaw28_GlobPlain.l0 k t165 t166 bt167.1 false 0) else (some (bt167.1.toList == ([] : List UInt8))))))) else (some false))
theorem wainwrightlaw28_GlobPlain.mono_l : ∀ k, (∀ y0 y1 y2 y3 y4, LeO (wainwrightlaw28_GlobPlain.l0 k y0 y1 y2 y3 y4) (wainwrightlaw28_GlobPlain.l0 (k + 1) y0 y1 y2 y3 y4))
  | 0 => fun _ _ _ _ _ r h => by simp [wainwrightlaw28_GlobPlain.l0] at h
  | k + 1 => by
    have ih0 := wainwrightlaw28_GlobPlain.mono_l k
    · intro y0 y1 y2 y3 y4
      unfold wainwrightlaw28_GlobPlain.l0
      repeat' first
      | (with_reducible exact ih0 _ _ _ _ _)
      | (with_reducible exact glob_Match.mono _ _ _)
      | (with_reducible exact glob_Plain.mono _ _)
      | (with_reducible exact wainwrightlaw28_lives.mono _)
      | (with_reducible exact LeO.refl _)
      | (with_reducible exact LeO.none _)
      | (with_reducible refine LeO.ite ?_ ?_)
      | (with_reducible refine LeO.bind ?_ (fun _ => ?_))
      | exact ih0 _ _ _ _ _
      | exact glob_Match.mono _ _ _
      | exact glob_Plain.mono _ _
      | exact wainwrightlaw28_lives.mono _
      | exact LeO.none _
      | refine LeO.ite ?_ ?_
      | refine LeO.bind ?_ (fun _ => ?_)
theorem wainwrightlaw28_GlobPlain.mono : ∀ a0 a1 k, LeO (wainwrightlaw28_GlobPlain.f k a0 a1) (wainwrightlaw28_GlobPlain.f (k + 1) a0 a1) := by
  intro a0 a1 k
  have ih0 := wainwrightlaw28_GlobPlain.mono_l k
  unfold wainwrightlaw28_GlobPlain.f
  repeat' first
      | (with_reducible exact ih0 _ _ _ _ _)
      | (with_reducible exact glob_Match.mono _ _ _)
      | (with_reducible exact glob_Plain.mono _ _)
      | (with_reducible exact wainwrightlaw28_lives.mono _)
      | (with_reducible exact LeO.refl _)
      | (with_reducible exact LeO.none _)
      | (with_reducible refine LeO.ite ?_ ?_)
      | (with_reducible refine LeO.bind ?_ (fun _ => ?_))
      | exact ih0 _ _ _ _ _
      | exact glob_Match.mono _ _ _
      | exact glob_Plain.mono _ _
      | exact wainwrightlaw28_lives.mono _
      | exact LeO.none _
      | refine LeO.ite ?_ ?_
      | refine LeO.bind ?_ (fun _ => ?_)
set_option maxHeartbeats 8000000 in
set_option maxRecDepth 100000 in
theorem wainwrightlaw28_GlobPlain.calls (k : Nat) (a0 : ByteArray) (a1 : ByteArray) (r : Bool) (w : World) (h : wainwrightlaw28_GlobPlain.f k a0 a1 = some r) :
    Calls Tryd.prog 5 #[.string a0, .string a1] w fun e w' => e = .returned (.bool r) ∧ Below w.heap.size w w' := by
  have HB := Aside0.mk (Below.refl w.heap.size w)
  have H : ((wainwrightlaw28_lives.f k).bind fun t164 => (if t164 = true then ((wainwrightlaw28_early.f a0).bind fun t165 => ((wainwrightlaw28_early.f a1).bind fun t166 => ((glob_Plain.f k t165).bind fun bt167 => (if bt167.2 = true then (wainwrightlaw28_GlobPlain.l0 k t165 t166 bt167.1 false 0) else (some (bt167.1.toList == ([] : List UInt8))))))) else (some false))) = some r := h
  clear h
  replace H := Option.bind_eq_some_iff.mp H
  obtain ⟨t164, A30, H⟩ := H
  replace H : (if t164 = true then ((wainwrightlaw28_early.f a0).bind fun t165 => ((wainwrightlaw28_early.f a1).bind fun t166 => ((glob_Plain.f k t165).bind fun bt167 => (if bt167.2 = true then (wainwrightlaw28_GlobPlain.l0 k t165 t166 bt167.1 false 0) else (some (bt167.1.toList == ([] : List UInt8))))))) else (some false)) = some r := H
  have A3 := Aside0.mk A30
  clear A30
  by_cases c4 : t164 = true
  · subst c4
    have H1 : ((wainwrightlaw28_early.f a0).bind fun t165 => ((wainwrightlaw28_early.f a1).bind fun t166 => ((glob_Plain.f k t165).bind fun bt167 => (if bt167.2 = true then (wainwrightlaw28_GlobPlain.l0 k t165 t166 bt167.1 false 0) else (some (bt167.1.toList == ([] : List UInt8))))))) = some r := by rw [if_pos rfl] at H; exact H
    clear H
    have H := H1
    clear H1
    replace H := Option.bind_eq_some_iff.mp H
    obtain ⟨t165, A50, H⟩ := H
    replace H : ((wainwrightlaw28_early.f a1).bind fun t166 => ((glob_Plain.f k t165).bind fun bt167 => (if bt167.2 = true then (wainwrightlaw28_GlobPlain.l0 k t165 t166 bt167.1 false 0) else (some (bt167.1.toList == ([] : List UInt8)))))) = some r := H
    have A5 := Aside0.mk A50
    clear A50
    replace H := Option.bind_eq_some_iff.mp H
    obtain ⟨t166, A60, H⟩ := H
    replace H : ((glob_Plain.f k t165).bind fun bt167 => (if bt167.2 = true then (wainwrightlaw28_GlobPlain.l0 k t165 t166 bt167.1 false 0) else (some (bt167.1.toList == ([] : List UInt8))))) = some r := H
    have A6 := Aside0.mk A60
    clear A60
    replace H := Option.bind_eq_some_iff.mp H
    obtain ⟨⟨t167, t168⟩, A70, H⟩ := H
    replace H : (if t168 = true then (wainwrightlaw28_GlobPlain.l0 k t165 t166 t167 false 0) else (some (t167.toList == ([] : List UInt8)))) = some r := H
    have A7 := Aside0.mk A70
    clear A70
    by_cases c8 : t168 = true
    · subst c8
      have H1 : (wainwrightlaw28_GlobPlain.l0 k t165 t166 t167 false 0) = some r := by rw [if_pos rfl] at H; exact H
      clear H
      have H := H1
      clear H1
      have H' := Aside0.mk H
      clear H
      go_enter Tryd.func5, Tryd.ntmps5
      go_wp2_with (first | ((with_reducible refine gate_callee (f := 6) rfl ?_); refine goesL_ (some 9) rfl rfl Tryd.func6 (by kernel_rfl) rfl #[] rfl (by (try simp only [List.map_toArray, List.map_cons, List.map_nil]); first | done | rfl | (simp only [List.length_drop, List.length_take]; rfl)) ?_; (with_reducible refine (wainwrightlaw28_lives.calls k  true _ A3.out).mono ?_); rintro e w9 ⟨rfl, hb⟩; refine ⟨_, rfl, ?_⟩; have n0_ := Aside0.mk (below_step (by repeat (first | (with_reducible first | exact HB.out | apply below_alloc | apply pw_below_drewN | apply below_drew1) | exact HB.out)) hb); clear HB; have HB := n0_; clear n0_; (try clear hb); (try clear hb2); (try clear hk); (try clear hi)) | ((with_reducible refine gate_callee (f := 7) rfl ?_); refine goesL_ (some 12) rfl rfl Tryd.func7 (by kernel_rfl) rfl #[.string a0] rfl (by (try simp only [List.map_toArray, List.map_cons, List.map_nil]); first | done | rfl | (simp only [List.length_drop, List.length_take]; rfl)) ?_; (with_reducible refine (wainwrightlaw28_early.calls a0 t165 _ A5.out).mono ?_); rintro e w10 ⟨rfl, hb⟩; refine ⟨_, rfl, ?_⟩; have n0_ := Aside0.mk (below_step (by repeat (first | (with_reducible first | exact HB.out | apply below_alloc | apply pw_below_drewN | apply below_drew1) | exact HB.out)) hb); clear HB; have HB := n0_; clear n0_; (try clear hb); (try clear hb2); (try clear hk); (try clear hi)) | ((with_reducible refine gate_callee (f := 7) rfl ?_); refine goesL_ (some 14) rfl rfl Tryd.func7 (by kernel_rfl) rfl #[.string a1] rfl (by (try simp only [List.map_toArray, List.map_cons, List.map_nil]); first | done | rfl | (simp only [List.length_drop, List.length_take]; rfl)) ?_; (with_reducible refine (wainwrightlaw28_early.calls a1 t166 _ A6.out).mono ?_); rintro e w11 ⟨rfl, hb⟩; refine ⟨_, rfl, ?_⟩; have n0_ := Aside0.mk (below_step (by repeat (first | (with_reducible first | exact HB.out | apply below_alloc | apply pw_below_drewN | apply below_drew1) | exact HB.out)) hb); clear HB; have HB := n0_; clear n0_; (try clear hb); (try clear hb2); (try clear hk); (try clear hi)) | ((with_reducible refine gate_callee (f := 12) rfl ?_); refine goesL_ (some 17) rfl rfl Tryd.func12 (by kernel_rfl) rfl #[.string t165] rfl (by (try simp only [List.map_toArray, List.map_cons, List.map_nil]); first | done | rfl | (simp only [List.length_drop, List.length_take]; rfl)) ?_; (with_reducible refine (glob_Plain.calls k t165 t167 true _ A7.out).mono ?_); rintro e w12 ⟨rfl, hb⟩; refine ⟨_, rfl, ?_⟩; have n0_ := Aside0.mk (below_step (by repeat (first | (with_reducible first | exact HB.out | apply below_alloc | apply pw_below_drewN | apply below_drew1) | exact HB.out)) hb); clear HB; have HB := n0_; clear n0_; (try clear hb); (try clear hb2); (try clear hk); (try clear hi)))
      go_loopg [7, 8] k (fun kq v7 v8 w' => ∃ (x7_1 : Bool) (x8_1 : Int), v7 = .bool x7_1 ∧ v8 = .int .i64 x8_1 ∧ Aside0 (wainwrightlaw28_GlobPlain.l0 kq t165 t166 t167 x7_1 x8_1 = some r) ∧ Aside0 (kq ≤ k) ∧ Aside0 (Below w.heap.size w w'))
      case atStart => exact ⟨(false), (0), (by first | rfl | (simp; done) | (simp [*]; done) | exact gw_ne _ | exact gw_eq _), (by first | rfl | (simp; done) | (simp [*]; done) | exact gw_ne _ | exact gw_eq _), H', ⟨Nat.le_refl _⟩, ⟨by repeat (first | (with_reducible first | exact HB.out | apply below_alloc | apply pw_below_drewN | apply below_drew1) | exact HB.out)⟩⟩
      case round =>
        clear H'
        try clear c1
        try clear p2
        try clear c4
        try clear c5
        try clear c6
        try clear c7
        try clear c8
        try clear c12
        obtain ⟨x7_1, x8_1, rfl, rfl, HA, HK1, HB⟩ := hrel
        cases gk with
        | zero => exact absurd HA.out (by simp [wainwrightlaw28_GlobPlain.l0])
        | succ k1 =>
          have H := HA.out
          clear HA
          simp only [wainwrightlaw28_GlobPlain.l0] at H
          by_cases c13 : x8_1 < (t165.size : Int)
          · rw [if_pos c13] at H
            have c13b0 : decide (x8_1 < (t165.size : Int)) = true := decide_eq_true c13
            clear c13
            by_cases c14 : x7_1 = true
            · subst c14
              have H1 : (wainwrightlaw28_GlobPlain.l0 k1 t165 t166 t167 true (wrap64 (x8_1 + 1))) = some r := by rw [if_pos rfl] at H; exact H
              clear H
              have H := H1
              clear H1
              have H' := Aside0.mk H
              clear H
              go_wp2
              go_roundg k1
              case measure => have := HK1.out; omega
              case rel => exact ⟨(true), (wrap64 (x8_1 + 1)), (by first | rfl | (simp; done) | (simp [*]; done) | exact gw_ne _ | exact gw_eq _), (by first | rfl | (simp; done) | (simp [*]; done) | exact gw_ne _ | exact gw_eq _), H', ⟨by have := HK1.out; omega⟩, ⟨by repeat (first | (with_reducible first | exact HB.out | apply below_alloc | apply pw_below_drewN | apply below_drew1) | exact HB.out)⟩⟩
            · replace c14 := Bool.eq_false_iff.mpr c14
              subst c14
              have H1 : (if 0 ≤ x8_1 then (wainwrightlaw28_GlobPlain.l0 k1 t165 t166 t167 ((bt t165 x8_1) == 92) (wrap64 (x8_1 + 1))) else (none)) = some r := by rw [if_neg (show ¬ (false = true) by decide)] at H; exact H
              clear H
              have H := H1
              clear H1
              by_cases c15 : 0 ≤ x8_1
              · rw [if_pos c15] at H
                have c15b0 : decide (0 ≤ x8_1) = true := decide_eq_true c15
                clear c15
                have H' := Aside0.mk H
                clear H
                have p16 : 0 ≤ (x8_1 : Int) := of_decide_eq_true (by first | (with_reducible assumption) | assumption)
                have q16 : x8_1 < (t165.size : Int) := of_decide_eq_true (by first | (with_reducible assumption) | assumption)
                have hx16 := bt_at t165 x8_1
                replace p16 := eq_true p16
                replace q16 := eq_true q16
                go_wp2
                go_roundg k1
                case measure => have := HK1.out; omega
                case rel => exact ⟨(((bt t165 x8_1) == 92)), (wrap64 (x8_1 + 1)), (by first | rfl | (simp; done) | (simp [*]; done) | exact gw_ne _ | exact gw_eq _), (by first | rfl | (simp; done) | (simp [*]; done) | exact gw_ne _ | exact gw_eq _), H', ⟨by have := HK1.out; omega⟩, ⟨by repeat (first | (with_reducible first | exact HB.out | apply below_alloc | apply pw_below_drewN | apply below_drew1) | exact HB.out)⟩⟩
              · rw [if_neg c15] at H
                exact absurd H (by simp)
          · rw [if_neg c13] at H
            have c13b0 : decide (x8_1 < (t165.size : Int)) = false := decide_eq_false c13
            clear c13
            replace H := Option.bind_eq_some_iff.mp H
            obtain ⟨t169, A170, H⟩ := H
            replace H : (if t169 = true then ((glob_Match.f k1 t165 t166).bind fun t170 => (if ((t166.toList == t167.toList) == t170) = true then (if x7_1 = true then (some true) else (some (t167.toList == t165.toList))) else (some false))) else (some false)) = some r := H
            have A17 := Aside0.mk A170
            clear A170
            by_cases c18 : t169 = true
            · subst c18
              have H1 : ((glob_Match.f k1 t165 t166).bind fun t170 => (if ((t166.toList == t167.toList) == t170) = true then (if x7_1 = true then (some true) else (some (t167.toList == t165.toList))) else (some false))) = some r := by rw [if_pos rfl] at H; exact H
              clear H
              have H := H1
              clear H1
              replace H := Option.bind_eq_some_iff.mp H
              obtain ⟨t170, A190, H⟩ := H
              replace H : (if ((t166.toList == t167.toList) == t170) = true then (if x7_1 = true then (some true) else (some (t167.toList == t165.toList))) else (some false)) = some r := H
              have A19 := Aside0.mk A190
              clear A190
              by_cases c20 : ((t166.toList == t167.toList) == t170) = true
              · rw [if_pos c20] at H
                have c20b0 : ((t166.toList == t167.toList) == t170) = true := c20
                (try (have c20b1 : decide ((t166.toList == t167.toList) = t170) = true := by simpa using c20))
                (try (have c20b2 : ((t166.toList == t167.toList) == t170) = true := by simpa using c20))
                clear c20
                by_cases c21 : x7_1 = true
                · subst c21
                  have H1 : (some true) = some r := by rw [if_pos rfl] at H; exact H
                  clear H
                  have H := H1
                  clear H1
                  obtain rfl := Option.some.inj H
                  go_wp2_with (first | ((with_reducible refine gate_callee (f := 10) rfl ?_); refine goesL_ (some 39) rfl rfl Tryd.func10 (by kernel_rfl) rfl #[.string t165, .string t167] rfl (by (try simp only [List.map_toArray, List.map_cons, List.map_nil]); first | done | rfl | (simp only [List.length_drop, List.length_take]; rfl)) ?_; (with_reducible refine (glob_Match.calls k1 t165 t167 true _ A17.out).mono ?_); rintro e w22 ⟨rfl, hb⟩; refine ⟨_, rfl, ?_⟩; have n0_ := Aside0.mk (below_step (by repeat (first | (with_reducible first | exact HB.out | apply below_alloc | apply pw_below_drewN | apply below_drew1) | exact HB.out)) hb); clear HB; have HB := n0_; clear n0_; (try clear hb); (try clear hb2); (try clear hk); (try clear hi)) | (go_at_call 10; (with_reducible refine (glob_Match.calls k1 t165 t166 t170 _ A19.out).mono ?_); rintro e w23 ⟨rfl, hb⟩; have n0_ := Aside0.mk (below_step (by repeat (first | (with_reducible first | exact HB.out | apply below_alloc | apply pw_below_drewN | apply below_drew1) | exact HB.out)) hb); clear HB; have HB := n0_; clear n0_; (try clear hb); (try clear hb2); (try clear hk); (try clear hi)))
                  go_ret
                  exact ⟨by first | rfl | (simp [errW_none, errW_some] <;> rfl) | (simp [*, errW_none, errW_some] <;> rfl), by repeat (first | (with_reducible first | exact HB.out | apply below_alloc | apply pw_below_drewN | apply below_drew1) | exact HB.out)⟩
                · replace c21 := Bool.eq_false_iff.mpr c21
                  subst c21
                  have H1 : (some (t167.toList == t165.toList)) = some r := by rw [if_neg (show ¬ (false = true) by decide)] at H; exact H
                  clear H
                  have H := H1
                  clear H1
                  obtain rfl := Option.some.inj H
                  go_wp2_with (first | ((with_reducible refine gate_callee (f := 10) rfl ?_); refine goesL_ (some 39) rfl rfl Tryd.func10 (by kernel_rfl) rfl #[.string t165, .string t167] rfl (by (try simp only [List.map_toArray, List.map_cons, List.map_nil]); first | done | rfl | (simp only [List.length_drop, List.length_take]; rfl)) ?_; (with_reducible refine (glob_Match.calls k1 t165 t167 true _ A17.out).mono ?_); rintro e w24 ⟨rfl, hb⟩; refine ⟨_, rfl, ?_⟩; have n0_ := Aside0.mk (below_step (by repeat (first | (with_reducible first | exact HB.out | apply below_alloc | apply pw_below_drewN | apply below_drew1) | exact HB.out)) hb); clear HB; have HB := n0_; clear n0_; (try clear hb); (try clear hb2); (try clear hk); (try clear hi)) | (go_at_call 10; (with_reducible refine (glob_Match.calls k1 t165 t166 t170 _ A19.out).mono ?_); rintro e w25 ⟨rfl, hb⟩; have n0_ := Aside0.mk (below_step (by repeat (first | (with_reducible first | exact HB.out | apply below_alloc | apply pw_below_drewN | apply below_drew1) | exact HB.out)) hb); clear HB; have HB := n0_; clear n0_; (try clear hb); (try clear hb2); (try clear hk); (try clear hi)))
                  go_ret
                  exact ⟨by first | rfl | (simp [errW_none, errW_some] <;> rfl) | (simp [*, errW_none, errW_some] <;> rfl), by repeat (first | (with_reducible first | exact HB.out | apply below_alloc | apply pw_below_drewN | apply below_drew1) | exact HB.out)⟩
              · rw [if_neg c20] at H
                have c20b0 : ((t166.toList == t167.toList) == t170) = false := by simpa using c20
                (try (have c20b1 : decide ((t166.toList == t167.toList) = t170) = false := by simpa using c20))
                (try (have c20b2 : ((t166.toList == t167.toList) == t170) = false := by simpa using c20))
                (try (have c20b3 : ¬ ((t166.toList == t167.toList) = t170) := by simpa using c20))
                clear c20
                obtain rfl := Option.some.inj H
                go_wp2_with (first | ((with_reducible refine gate_callee (f := 10) rfl ?_); refine goesL_ (some 39) rfl rfl Tryd.func10 (by kernel_rfl) rfl #[.string t165, .string t167] rfl (by (try simp only [List.map_toArray, List.map_cons, List.map_nil]); first | done | rfl | (simp only [List.length_drop, List.length_take]; rfl)) ?_; (with_reducible refine (glob_Match.calls k1 t165 t167 true _ A17.out).mono ?_); rintro e w26 ⟨rfl, hb⟩; refine ⟨_, rfl, ?_⟩; have n0_ := Aside0.mk (below_step (by repeat (first | (with_reducible first | exact HB.out | apply below_alloc | apply pw_below_drewN | apply below_drew1) | exact HB.out)) hb); clear HB; have HB := n0_; clear n0_; (try clear hb); (try clear hb2); (try clear hk); (try clear hi)) | (go_at_call 10; (with_reducible refine (glob_Match.calls k1 t165 t166 t170 _ A19.out).mono ?_); rintro e w27 ⟨rfl, hb⟩; have n0_ := Aside0.mk (below_step (by repeat (first | (with_reducible first | exact HB.out | apply below_alloc | apply pw_below_drewN | apply below_drew1) | exact HB.out)) hb); clear HB; have HB := n0_; clear n0_; (try clear hb); (try clear hb2); (try clear hk); (try clear hi)))
                go_ret
                exact ⟨by first | rfl | (simp [errW_none, errW_some] <;> rfl) | (simp [*, errW_none, errW_some] <;> rfl), by repeat (first | (with_reducible first | exact HB.out | apply below_alloc | apply pw_below_drewN | apply below_drew1) | exact HB.out)⟩
            · replace c18 := Bool.eq_false_iff.mpr c18
              subst c18
              have H1 : (some false) = some r := by rw [if_neg (show ¬ (false = true) by decide)] at H; exact H
              clear H
              have H := H1
              clear H1
              obtain rfl := Option.some.inj H
              go_wp2_with (first | ((with_reducible refine gate_callee (f := 10) rfl ?_); refine goesL_ (some 39) rfl rfl Tryd.func10 (by kernel_rfl) rfl #[.string t165, .string t167] rfl (by (try simp only [List.map_toArray, List.map_cons, List.map_nil]); first | done | rfl | (simp only [List.length_drop, List.length_take]; rfl)) ?_; (with_reducible refine (glob_Match.calls k1 t165 t167 false _ A17.out).mono ?_); rintro e w28 ⟨rfl, hb⟩; refine ⟨_, rfl, ?_⟩; have n0_ := Aside0.mk (below_step (by repeat (first | (with_reducible first | exact HB.out | apply below_alloc | apply pw_below_drewN | apply below_drew1) | exact HB.out)) hb); clear HB; have HB := n0_; clear n0_; (try clear hb); (try clear hb2); (try clear hk); (try clear hi)))
              go_ret
              exact ⟨by first | rfl | (simp [errW_none, errW_some] <;> rfl) | (simp [*, errW_none, errW_some] <;> rfl), by repeat (first | (with_reducible first | exact HB.out | apply below_alloc | apply pw_below_drewN | apply below_drew1) | exact HB.out)⟩
    · replace c8 := Bool.eq_false_iff.mpr c8
      subst c8
      have H1 : (some (t167.toList == ([] : List UInt8))) = some r := by rw [if_neg (show ¬ (false = true) by decide)] at H; exact H
      clear H
      have H := H1
      clear H1
      obtain rfl := Option.some.inj H
      go_enter Tryd.func5, Tryd.ntmps5
      go_wp2_with (first | ((with_reducible refine gate_callee (f := 6) rfl ?_); refine goesL_ (some 9) rfl rfl Tryd.func6 (by kernel_rfl) rfl #[] rfl (by (try simp only [List.map_toArray, List.map_cons, List.map_nil]); first | done | rfl | (simp only [List.length_drop, List.length_take]; rfl)) ?_; (with_reducible refine (wainwrightlaw28_lives.calls k  true _ A3.out).mono ?_); rintro e w29 ⟨rfl, hb⟩; refine ⟨_, rfl, ?_⟩; have n0_ := Aside0.mk (below_step (by repeat (first | (with_reducible first | exact HB.out | apply below_alloc | apply pw_below_drewN | apply below_drew1) | exact HB.out)) hb); clear HB; have HB := n0_; clear n0_; (try clear hb); (try clear hb2); (try clear hk); (try clear hi)) | ((with_reducible refine gate_callee (f := 7) rfl ?_); refine goesL_ (some 12) rfl rfl Tryd.func7 (by kernel_rfl) rfl #[.string a0] rfl (by (try simp only [List.map_toArray, List.map_cons, List.map_nil]); first | done | rfl | (simp only [List.length_drop, List.length_take]; rfl)) ?_; (with_reducible refine (wainwrightlaw28_early.calls a0 t165 _ A5.out).mono ?_); rintro e w30 ⟨rfl, hb⟩; refine ⟨_, rfl, ?_⟩; have n0_ := Aside0.mk (below_step (by repeat (first | (with_reducible first | exact HB.out | apply below_alloc | apply pw_below_drewN | apply below_drew1) | exact HB.out)) hb); clear HB; have HB := n0_; clear n0_; (try clear hb); (try clear hb2); (try clear hk); (try clear hi)) | ((with_reducible refine gate_callee (f := 7) rfl ?_); refine goesL_ (some 14) rfl rfl Tryd.func7 (by kernel_rfl) rfl #[.string a1] rfl (by (try simp only [List.map_toArray, List.map_cons, List.map_nil]); first | done | rfl | (simp only [List.length_drop, List.length_take]; rfl)) ?_; (with_reducible refine (wainwrightlaw28_early.calls a1 t166 _ A6.out).mono ?_); rintro e w31 ⟨rfl, hb⟩; refine ⟨_, rfl, ?_⟩; have n0_ := Aside0.mk (below_step (by repeat (first | (with_reducible first | exact HB.out | apply below_alloc | apply pw_below_drewN | apply below_drew1) | exact HB.out)) hb); clear HB; have HB := n0_; clear n0_; (try clear hb); (try clear hb2); (try clear hk); (try clear hi)) | ((with_reducible refine gate_callee (f := 12) rfl ?_); refine goesL_ (some 17) rfl rfl Tryd.func12 (by kernel_rfl) rfl #[.string t165] rfl (by (try simp only [List.map_toArray, List.map_cons, List.map_nil]); first | done | rfl | (simp only [List.length_drop, List.length_take]; rfl)) ?_; (with_reducible refine (glob_Plain.calls k t165 t167 false _ A7.out).mono ?_); rintro e w32 ⟨rfl, hb⟩; refine ⟨_, rfl, ?_⟩; have n0_ := Aside0.mk (below_step (by repeat (first | (with_reducible first | exact HB.out | apply below_alloc | apply pw_below_drewN | apply below_drew1) | exact HB.out)) hb); clear HB; have HB := n0_; clear n0_; (try clear hb); (try clear hb2); (try clear hk); (try clear hi)))
      go_ret
      exact ⟨by first | rfl | (simp [errW_none, errW_some] <;> rfl) | (simp [*, errW_none, errW_some] <;> rfl), by repeat (first | (with_reducible first | exact HB.out | apply below_alloc | apply pw_below_drewN | apply below_drew1) | exact HB.out)⟩
  · replace c4 := Bool.eq_false_iff.mpr c4
    subst c4
    have H1 : (some false) = some r := by rw [if_neg (show ¬ (false = true) by decide)] at H; exact H
    clear H
    have H := H1
    clear H1
    obtain rfl := Option.some.inj H
    go_enter Tryd.func5, Tryd.ntmps5
    go_wp2_with (first | ((with_reducible refine gate_callee (f := 6) rfl ?_); refine goesL_ (some 9) rfl rfl Tryd.func6 (by kernel_rfl) rfl #[] rfl (by (try simp only [List.map_toArray, List.map_cons, List.map_nil]); first | done | rfl | (simp only [List.length_drop, List.length_take]; rfl)) ?_; (with_reducible refine (wainwrightlaw28_lives.calls k  false _ A3.out).mono ?_); rintro e w33 ⟨rfl, hb⟩; refine ⟨_, rfl, ?_⟩; have n0_ := Aside0.mk (below_step (by repeat (first | (with_reducible first | exact HB.out | apply below_alloc | apply pw_below_drewN | apply below_drew1) | exact HB.out)) hb); clear HB; have HB := n0_; clear n0_; (try clear hb); (try clear hb2); (try clear hk); (try clear hi)))
    go_ret
    exact ⟨by first | rfl | (simp [errW_none, errW_some] <;> rfl) | (simp [*, errW_none, errW_some] <;> rfl), by repeat (first | (with_reducible first | exact HB.out | apply below_alloc | apply pw_below_drewN | apply below_drew1) | exact HB.out)⟩

/-- THE ONE PURE STATEMENT of wainwrightlaw28_GlobPlain: yours. -/
def wainwrightlaw28_GlobPlain.Pure : Prop := ∀ (a0 : ByteArray) (a1 : ByteArray), a0.size ≤ 140737488351232 → a1.size ≤ 140737488351232 → ∃ k, wainwrightlaw28_GlobPlain.f k a0 a1 = some true
theorem wainwrightlaw28_GlobPlain.walk (P : wainwrightlaw28_GlobPlain.Pure) (a0 : ByteArray) (a1 : ByteArray) (w : World) (w0 : a0.size ≤ 140737488351232) (w1 : a1.size ≤ 140737488351232) :
    Calls Tryd.prog 5 #[.string a0, .string a1] w fun e w' => e = .returned (.bool true) ∧ Below w.heap.size w w' := by
  obtain ⟨k, h⟩ := P a0 a1 w0 w1
  refine (wainwrightlaw28_GlobPlain.calls k a0 a1 true w h).mono ?_
  rintro e w' ⟨rfl, hd⟩
  exact ⟨rfl, hd⟩

end Go.Proofs.YtefomcoimbnalaaDoor.GGlp
