/- printed for this claim by gprint.py, a program of this session, that drives the kit's printer. -/
import Derived.Test.YtahjalabhlakaacDoorGPthx0
namespace Go.Proofs.YtahjalabhlakaacDoor.GPth
open Go.RowKit Go.Proofs.YtahjalabhlakaacDoorW.PrintWords Go.Proofs.YtahjalabhlakaacDoorW.PrintLast Go.Proofs.YtahjalabhlakaacDoorW.PrintMore
attribute [local go_sem] max2_int min2_int max_two min_two max_three min_three max_four min_four   -- for this text's walks alone
set_option linter.unusedVariables false
set_option linter.unusedSimpArgs false

/-! ### stringslite_HasPrefix: function 50 -/
def stringslite_HasPrefix.f (a0 : ByteArray) (a1 : ByteArray) : Option (Bool) := if (a0.size : Int) ≥ (a1.size : Int) then (if 0 ≤ (a1.size : Int) then (if (a1.size : Int) ≤ (a0.size : Int) then (some ((a0.extract 0 ((a1.size : Int) : Int).toNat).toList == a1.toList)) else (none)) else (none)) else (some false)
set_option maxHeartbeats 8000000 in
set_option maxRecDepth 100000 in
theorem stringslite_HasPrefix.calls (a0 : ByteArray) (a1 : ByteArray) (r : Bool) (w : World) (h : stringslite_HasPrefix.f a0 a1 = some r) :
    Calls Tryd.prog 50 #[.string a0, .string a1] w fun e w' => e = .returned (.bool r) ∧ Drawn0 w w' := by
  have H : (if (a0.size : Int) ≥ (a1.size : Int) then (if 0 ≤ (a1.size : Int) then (if (a1.size : Int) ≤ (a0.size : Int) then (some ((a0.extract 0 ((a1.size : Int) : Int).toNat).toList == a1.toList)) else (none)) else (none)) else (some false)) = some r := h
  clear h
  by_cases c3 : (a0.size : Int) ≥ (a1.size : Int)
  · rw [if_pos c3] at H
    have c3b0 : decide ((a1.size : Int) ≤ (a0.size : Int)) = true := decide_eq_true c3
    have c3b1 : decide (a1.size ≤ a0.size) = true := decide_eq_true (Int.ofNat_le.mp c3)
    clear c3
    by_cases c4 : 0 ≤ (a1.size : Int)
    · rw [if_pos c4] at H
      have c4b0 := eq_true c4
      have c4b1 : decide (0 ≤ (a1.size : Int)) = true := decide_eq_true c4
      clear c4
      by_cases c5 : (a1.size : Int) ≤ (a0.size : Int)
      · rw [if_pos c5] at H
        have c5b0 := eq_true c5
        have c5b1 : decide ((a1.size : Int) ≤ (a0.size : Int)) = true := decide_eq_true c5
        clear c5
        obtain rfl := Option.some.inj H
        go_enter Tryd.func50, Tryd.ntmps50
        go_wp2
        go_ret
        exact ⟨by first | rfl | (simp; done) | (simp [*]; done), by repeat (first | exact Drawn0.refl _ | apply Drawn0.step)⟩
      · rw [if_neg c5] at H
        exact absurd H (by simp)
    · rw [if_neg c4] at H
      exact absurd H (by simp)
  · rw [if_neg c3] at H
    have c3b0 : decide ((a1.size : Int) ≤ (a0.size : Int)) = false := decide_eq_false c3
    have c3b1 : decide (a1.size ≤ a0.size) = false := decide_eq_false (fun h => c3 (Int.ofNat_le.mpr h))
    clear c3
    obtain rfl := Option.some.inj H
    go_enter Tryd.func50, Tryd.ntmps50
    go_wp2
    go_ret
    exact ⟨by first | rfl | (simp; done) | (simp [*]; done), by repeat (first | exact Drawn0.refl _ | apply Drawn0.step)⟩

/-! ### stringslite_CutPrefix: function 34 -/
def stringslite_CutPrefix.f (a0 : ByteArray) (a1 : ByteArray) : Option (ByteArray × Bool) := (stringslite_HasPrefix.f a0 a1).bind fun t101 => (if t101 = true then (if 0 ≤ (a1.size : Int) then (if (a1.size : Int) ≤ (a0.size : Int) then (some (a0.extract ((a1.size : Int) : Int).toNat a0.size, true)) else (none)) else (none)) else (some (a0, false)))
set_option maxHeartbeats 8000000 in
set_option maxRecDepth 100000 in
theorem stringslite_CutPrefix.calls (a0 : ByteArray) (a1 : ByteArray) (r1 : ByteArray) (r2 : Bool) (w : World) (h : stringslite_CutPrefix.f a0 a1 = some (r1, r2)) :
    Calls Tryd.prog 34 #[.string a0, .string a1] w fun e w' => e = .returned (.tuple #[.string r1, .bool r2]) ∧ Drawn0 w w' := by
  have H : ((stringslite_HasPrefix.f a0 a1).bind fun t101 => (if t101 = true then (if 0 ≤ (a1.size : Int) then (if (a1.size : Int) ≤ (a0.size : Int) then (some (a0.extract ((a1.size : Int) : Int).toNat a0.size, true)) else (none)) else (none)) else (some (a0, false)))) = some (r1, r2) := h
  clear h
  replace H := Option.bind_eq_some_iff.mp H
  obtain ⟨t101, A30, H⟩ := H
  replace H : (if t101 = true then (if 0 ≤ (a1.size : Int) then (if (a1.size : Int) ≤ (a0.size : Int) then (some (a0.extract ((a1.size : Int) : Int).toNat a0.size, true)) else (none)) else (none)) else (some (a0, false))) = some (r1, r2) := H
  have A3 := Aside0.mk A30
  clear A30
  by_cases c4 : t101 = true
  · subst c4
    have H1 : (if 0 ≤ (a1.size : Int) then (if (a1.size : Int) ≤ (a0.size : Int) then (some (a0.extract ((a1.size : Int) : Int).toNat a0.size, true)) else (none)) else (none)) = some (r1, r2) := by rw [if_pos rfl] at H; exact H
    clear H
    have H := H1
    clear H1
    by_cases c5 : 0 ≤ (a1.size : Int)
    · rw [if_pos c5] at H
      have c5b0 := eq_true c5
      have c5b1 : decide (0 ≤ (a1.size : Int)) = true := decide_eq_true c5
      clear c5
      by_cases c6 : (a1.size : Int) ≤ (a0.size : Int)
      · rw [if_pos c6] at H
        have c6b0 := eq_true c6
        have c6b1 : decide ((a1.size : Int) ≤ (a0.size : Int)) = true := decide_eq_true c6
        clear c6
        simp only [Option.some.injEq, Prod.mk.injEq] at H
        obtain ⟨rfl, rfl⟩ := H
        go_enter Tryd.func34, Tryd.ntmps34
        go_wp2_with (first | ((with_reducible refine gate_callee (f := 50) rfl ?_); refine goesL_ (some 8) rfl rfl Tryd.func50 (by kernel_rfl) rfl #[.string a0, .string a1] rfl (by (try simp only [List.map_toArray, List.map_cons, List.map_nil]); first | done | rfl | (simp only [List.length_drop, List.length_take]; rfl)) ?_; (with_reducible refine (stringslite_HasPrefix.calls a0 a1 true _ A3.out).mono ?_); rintro e w' ⟨rfl, ⟨nd, rfl⟩⟩; refine ⟨_, rfl, ?_⟩))
        go_ret2
        exact ⟨by first | rfl | (simp; done) | (simp [*]; done), by repeat (first | exact Drawn0.refl _ | apply Drawn0.step)⟩
      · rw [if_neg c6] at H
        exact absurd H (by simp)
    · rw [if_neg c5] at H
      exact absurd H (by simp)
  · replace c4 := Bool.eq_false_iff.mpr c4
    subst c4
    have H1 : (some (a0, false)) = some (r1, r2) := by rw [if_neg (show ¬ (false = true) by decide)] at H; exact H
    clear H
    have H := H1
    clear H1
    simp only [Option.some.injEq, Prod.mk.injEq] at H
    obtain ⟨rfl, rfl⟩ := H
    go_enter Tryd.func34, Tryd.ntmps34
    go_wp2_with (first | ((with_reducible refine gate_callee (f := 50) rfl ?_); refine goesL_ (some 8) rfl rfl Tryd.func50 (by kernel_rfl) rfl #[.string a0, .string a1] rfl (by (try simp only [List.map_toArray, List.map_cons, List.map_nil]); first | done | rfl | (simp only [List.length_drop, List.length_take]; rfl)) ?_; (with_reducible refine (stringslite_HasPrefix.calls a0 a1 false _ A3.out).mono ?_); rintro e w' ⟨rfl, ⟨nd, rfl⟩⟩; refine ⟨_, rfl, ?_⟩))
    go_ret2
    exact ⟨by first | rfl | (simp; done) | (simp [*]; done), by repeat (first | exact Drawn0.refl _ | apply Drawn0.step)⟩

/-! ### strings_CutPrefix: function 22 -/
def strings_CutPrefix.f (a0 : ByteArray) (a1 : ByteArray) : Option (ByteArray × Bool) := (stringslite_CutPrefix.f a0 a1).bind fun bt102 => (some (bt102.1, bt102.2))
set_option maxHeartbeats 8000000 in
set_option maxRecDepth 100000 in
theorem strings_CutPrefix.calls (a0 : ByteArray) (a1 : ByteArray) (r1 : ByteArray) (r2 : Bool) (w : World) (h : strings_CutPrefix.f a0 a1 = some (r1, r2)) :
    Calls Tryd.prog 22 #[.string a0, .string a1] w fun e w' => e = .returned (.tuple #[.string r1, .bool r2]) ∧ Drawn0 w w' := by
  have H : ((stringslite_CutPrefix.f a0 a1).bind fun bt102 => (some (bt102.1, bt102.2))) = some (r1, r2) := h
  clear h
  replace H := Option.bind_eq_some_iff.mp H
  obtain ⟨⟨t102, t103⟩, A30, H⟩ := H
  replace H : (some (t102, t103)) = some (r1, r2) := H
  have A3 := Aside0.mk A30
  clear A30
  simp only [Option.some.injEq, Prod.mk.injEq] at H
  obtain ⟨rfl, rfl⟩ := H
  go_enter Tryd.func22, Tryd.ntmps22
  go_wp2_with (first | ((with_reducible refine gate_callee (f := 34) rfl ?_); refine goesL_ (some 8) rfl rfl Tryd.func34 (by kernel_rfl) rfl #[.string a0, .string a1] rfl (by (try simp only [List.map_toArray, List.map_cons, List.map_nil]); first | done | rfl | (simp only [List.length_drop, List.length_take]; rfl)) ?_; (with_reducible refine (stringslite_CutPrefix.calls a0 a1 t102 t103 _ A3.out).mono ?_); rintro e w' ⟨rfl, ⟨nd, rfl⟩⟩; refine ⟨_, rfl, ?_⟩))
  go_ret2
  exact ⟨by first | rfl | (simp; done) | (simp [*]; done), by repeat (first | exact Drawn0.refl _ | apply Drawn0.step)⟩

/-! ### strings_genSplit: function 35 -/
def strings_genSplit.f (a0 : ByteArray) (a1 : ByteArray) (a2 : Int) (a3 : Int) : Option (List ByteArray) := if a1.data.toList = [47] then (if a2 = 0 then (if a3 = -1 then (if a0.size < 4294967281 then (some (Lib.splitB ⟨#[47]⟩ 0 (Lib.countB a0 ⟨#[47]⟩) a0)) else (none)) else (none)) else (none)) else (none)
theorem strings_genSplit.calls (a0 : ByteArray) (a1 : ByteArray) (a2 : Int) (a3 : Int) (r : List ByteArray) (w : World) (h : strings_genSplit.f a0 a1 a2 a3 = some r) :
    Calls Tryd.prog 35 #[.string a0, .string a1, .int .i64 a2, .int .i64 a3] w fun e w' => ∃ v0_ : Value, e = .returned (v0_) ∧ Kd.R Kd.string 9 w' w.heap.size (fun _ => True) v0_ r ∧ Below w.heap.size w w' := by
  unfold strings_genSplit.f at h
  split at h
  · rename_i h1
    split at h
    · rename_i h2
      split at h
      · rename_i h3
        split at h
        · rename_i h4
          obtain rfl := Option.some.inj h
          subst h2 h3
          obtain rfl : a1 = ⟨#[47]⟩ := by
            cases a1 with | mk d => cases d with | mk l => simp at h1; subst h1; rfl
          have hle := Lib.countB_le ⟨#[47]⟩ (by decide) a0.size a0 (Nat.le_refl _)
          have hlen := Lib.splitB_all ⟨#[47]⟩ (by decide) 0 _ a0 rfl
          have c := Any.strings_genSplit_core Go.Proofs.Tryd.lays221 (by kernel_rfl) a0 ⟨#[47]⟩ 0 (-1) (Lib.countB a0 ⟨#[47]⟩ + 1) w h4 (by decide) (by decide)
            (fun x c _ => (Go.Proofs.Tryd.strings_Index_one x 47 _).mono fun e w' ⟨he, hw⟩ => ⟨by rw [he]; exact congrArg (fun z => Ending.returned (.int .i64 z)) (Lib.index_one _ _).symm, hw⟩)
            ((Go.Proofs.Tryd.strings_Count_one a0 47 w).mono fun e w' ⟨he, hw⟩ => ⟨by rw [he]; exact congrArg (fun z : Nat => Ending.returned (.int .i64 z)) (Lib.count_one _ _).symm, hw⟩)
            (by decide) (by decide) (by rw [if_pos (by decide)]; omega)
          rw [Nat.add_sub_cancel, hlen] at c
          have e2 : Lib.cellsOf (Lib.splitB ⟨#[47]⟩ 0 (Lib.countB a0 ⟨#[47]⟩) a0) (Lib.countB a0 ⟨#[47]⟩ + 1) = ((Lib.splitB ⟨#[47]⟩ 0 (Lib.countB a0 ⟨#[47]⟩) a0).map Value.string).toArray := by rw [← hlen]; exact Lib.cellsOf_full _
          rw [e2] at c
          refine c.mono fun e w' ⟨he, hw⟩ => ⟨_, he, ⟨fun _ _ => trivial, ?_⟩, ?_⟩
          · rw [hw, ← hlen]
            refine OwnRow.lit w w.heap.size ?_ (Nat.le_refl _) (by omega)
            refine ⟨by simp [Kd.string, Kd.scalar], ?_⟩
            intro j p hj
            show _ = [Value.string p]
            obtain ⟨hjl, rfl⟩ := List.getElem?_eq_some_iff.1 hj
            show ((List.map Value.string _).drop (j * 1)).take 1 = _
            rw [Nat.mul_one, List.drop_eq_getElem_cons (by simpa using hjl)]
            simp
          · rw [hw]; exact (Below.refl _ w).alloc (Nat.le_refl _) _
        · cases h
      · cases h
    · cases h
  · cases h
/-! ### strings_Split: function 23 -/
def strings_Split.f (a0 : ByteArray) (a1 : ByteArray) : Option (List ByteArray) := (strings_genSplit.f a0 a1 0 (-1)).bind fun t104 => (some t104)
set_option maxHeartbeats 8000000 in
set_option maxRecDepth 100000 in
theorem strings_Split.calls (a0 : ByteArray) (a1 : ByteArray) (r : List ByteArray) (w : World) (h : strings_Split.f a0 a1 = some r) :
    Calls Tryd.prog 23 #[.string a0, .string a1] w fun e w' => ∃ v0_ : Value, e = .returned (v0_) ∧ Kd.R Kd.string 9 w' w.heap.size (fun _ => True) v0_ r ∧ Below w.heap.size w w' := by
  have HB := Aside0.mk (Below.refl w.heap.size w)
  have H : ((strings_genSplit.f a0 a1 0 (-1)).bind fun t104 => (some t104)) = some r := h
  clear h
  replace H := Option.bind_eq_some_iff.mp H
  obtain ⟨t104, A30, H⟩ := H
  replace H : (some t104) = some r := H
  have A3 := Aside0.mk A30
  clear A30
  obtain rfl := Option.some.inj H
  go_enter Tryd.func23, Tryd.ntmps23
  go_wp2_with (first | ((with_reducible refine gate_callee (f := 35) rfl ?_); refine goesL_ (some 7) rfl rfl Tryd.func35 (by kernel_rfl) rfl #[.string a0, .string a1, .int .i64 0, .int .i64 (-1)] rfl (by (try simp only [List.map_toArray, List.map_cons, List.map_nil]); first | done | rfl | (simp only [List.length_drop, List.length_take]; rfl)) ?_; (with_reducible refine (strings_genSplit.calls a0 a1 0 (-1) t104 _ A3.out).mono ?_); rintro e w4 ⟨v105, rfl, ho0, hb⟩; refine ⟨_, rfl, ?_⟩; have n0_ := Aside0.mk (Kd.R_lower ho0 (below_size (by repeat (first | (with_reducible first | exact HB.out | apply below_alloc | apply pw_below_drewN | apply below_drew1) | exact HB.out)))); have n1_ := Aside0.mk (below_step (by repeat (first | (with_reducible first | exact HB.out | apply below_alloc | apply pw_below_drewN | apply below_drew1) | exact HB.out)) hb); clear HB; have HO106 := n0_; have HB := n1_; clear n0_ n1_; (try clear hb); (try clear hb2); (try clear hk); (try clear hi); (try clear ho0)))
  go_ret
  exact ⟨_, by first | rfl | (simp [errW_none, errW_some] <;> rfl) | (simp [*, errW_none, errW_some] <;> rfl), by (with_reducible repeat (first | apply Kd.R_alloc | apply Kd.R_drewN | apply Kd.R_drew)); exact HO106.out, by repeat (first | (with_reducible first | exact HB.out | apply below_alloc | apply pw_below_drewN | apply below_drew1) | exact HB.out)⟩

/-! ### paths_Right: function 11 -/
def GBad.signs : List UInt8 := [97, 98, 99, 100, 101, 102, 103, 104, 105, 106, 107, 108, 109, 110, 111, 112, 113, 114, 115, 116, 117, 118, 119, 120, 121, 122, 48, 49, 50, 51, 52, 53, 54, 55, 56, 57, 46, 45, 95]
def GBad.f (a0 : ByteArray) : Option (Bool) := if a0.data.toList.all (fun b => GBad.signs.contains b) = true then (some false) else (none)
theorem GBad.sign_lt : ∀ b ∈ GBad.signs, b.toNat < 128 := fun b hb => of_decide_eq_true (List.all_eq_true.1 (show GBad.signs.all (fun b => decide (b.toNat < 128)) = true by kernel_rfl) b hb)
theorem GBad.one (x : UInt8) (hx : GBad.signs.contains x = true) (w : World) : Calls Tryd.prog 28 #[.int .i32 (x.toNat : Int)] w fun e w' => e = .returned (.bool false) ∧ w = w' := by
  have hm : x ∈ GBad.signs := by simpa using hx
  have hlt := GBad.sign_lt x hm
  have c := Go.Proofs.Tryd.strings_ContainsRune_ascii (⟨#[97, 98, 99, 100, 101, 102, 103, 104, 105, 106, 107, 108, 109, 110, 111, 112, 113, 114, 115, 116, 117, 118, 119, 120, 121, 122, 48, 49, 50, 51, 52, 53, 54, 55, 56, 57, 46, 45, 95]⟩ : ByteArray) (x.toNat : Int) w (by omega) (by omega)
  have hi : decide (0 ≤ Lib.indexByte GBad.signs (x.toNat : Int).toNat.toUInt8) = true := by
    rw [show (x.toNat : Int).toNat.toUInt8 = x by simp]
    exact List.all_eq_true.1 (show GBad.signs.all (fun b => decide (0 ≤ Lib.indexByte GBad.signs b)) = true by kernel_rfl) x hm
  have hd : (⟨#[97, 98, 99, 100, 101, 102, 103, 104, 105, 106, 107, 108, 109, 110, 111, 112, 113, 114, 115, 116, 117, 118, 119, 120, 121, 122, 48, 49, 50, 51, 52, 53, 54, 55, 56, 57, 46, 45, 95]⟩ : ByteArray).data.toList = GBad.signs := rfl
  rw [hd, hi] at c
  have C := Aside0.mk c
  clear c hi hd
  generalize (x.toNat : Int) = r at *
  go_enter Tryd.func28, Tryd.ntmps28
  go_wp2_with (go_at_call 29; (with_reducible refine C.out.mono ?_); rintro e w' ⟨rfl, rfl⟩)
  go_ret
  exact ⟨rfl, rfl⟩
theorem GBad.decode (s : ByteArray) (hs : s.data.toList.all (fun b => GBad.signs.contains b) = true) (pos : Nat) (hp : pos < s.size) : ∃ x : UInt8, GBad.signs.contains x = true ∧ Utf8.decode s pos = (x.toNat, 1) := by
  have hl : pos < s.data.toList.length := by rw [Array.length_toList]; exact hp
  have hx := List.all_eq_true.1 hs _ (List.getElem_mem hl)
  refine ⟨s.data.toList[pos], hx, ?_⟩
  have hlt : (s.data.toList[pos]).toNat < 128 := GBad.sign_lt _ (by simpa using hx)
  have hg : s.get! pos = s.data.toList[pos] := by
    show s.data.get!Internal pos = _
    rw [Array.getElem_toList]
    exact getElem!_pos s.data pos hp
  rw [Lib.decode_at, hg]
  exact Lib.decodeN_ascii _ _ _ _ _ hlt
set_option maxHeartbeats 2000000 in
set_option maxRecDepth 100000 in
theorem GBad.inner (s : ByteArray) (hs : s.data.toList.all (fun b => GBad.signs.contains b) = true) (w : World) :
    Calls Tryd.prog 57 #[.string s, .func (.func 28) #[] #[], .bool true] w fun e w' => e = .returned (.int .i64 (-1)) ∧ Below w.heap.size w w' := by
  have HS := Aside0.mk (GBad.decode s hs)
  clear hs
  go_enter Tryd.func57, Tryd.ntmps57
  go_wp2
  go_loopg [] s.size (fun gf wx => ∃ pos : Nat, wx.heap[w.heap.size]? = some (.stringIter s pos) ∧ Below w.heap.size w wx ∧ s.size ≤ pos + gf)
  case atStart => exact ⟨0, World.iter_heap w s 0, (Below.refl _ w).alloc (Nat.le_refl _) _, by omega⟩
  case round =>
    obtain ⟨pos, hit, hbw, hfu⟩ := hrel
    by_cases hps : pos < s.size
    · obtain ⟨g', rfl⟩ : ∃ g', gk = g' + 1 := ⟨gk - 1, by omega⟩
      obtain ⟨x, hx, hd⟩ := HS.out pos hps
      have hnx : ∀ ty, (Instr.next (.pointer (some ⟨w.heap.size, 0, none⟩)) true ty).run Tryd.prog wr = _ := fun ty => Lib.run_next_any_at wr w.heap.size s pos ty hit hps
      rw [hd] at hnx
      have hit2 := Lib.iterAt_heap wr w.heap.size s pos (pos + 1) hit
      have hbw2 := Lib.below_iterAt hbw (k := w.heap.size) (Nat.le_refl _) s (pos + 1)
      obtain ⟨W, hWd⟩ : ∃ W, wr.iterAt w.heap.size s (pos + 1) = W := ⟨_, rfl⟩
      simp only at hnx
      rw [hWd] at hnx hit2 hbw2
      have cS := Aside0.mk (GBad.one x hx W)
      clear hd hx
      generalize x.toNat = R at *
      go_wp2_with (go_at_call 28; (with_reducible refine cS.out.mono ?_); rintro e W' ⟨rfl, rfl⟩)
      go_roundg g'
      case measure => omega
      case rel => exact ⟨pos + 1, hit2, hbw2, by omega⟩
    · have hnx : ∀ ty, (Instr.next (.pointer (some ⟨w.heap.size, 0, none⟩)) true ty).run Tryd.prog wr = _ := fun ty => Lib.run_next_end_at wr w.heap.size s pos ty hit hps
      go_wp2
      go_ret
      exact ⟨rfl, hbw⟩
theorem GBad.calls (a0 : ByteArray) (r : Bool) (w : World) (h : GBad.f a0 = some r) :
    Calls Tryd.prog 27 #[.string a0, .func (.func 28) #[] #[]] w fun e w' => e = .returned (.bool r) ∧ Below w.heap.size w w' := by
  unfold GBad.f at h
  split at h
  · rename_i hs
    obtain rfl := Option.some.inj h
    have cI := fun W : World => GBad.inner a0 hs W
    have cF : ∀ W : World, Calls Tryd.prog 44 #[.string a0, .func (.func 28) #[] #[]] W fun e w' => e = .returned (.int .i64 (-1)) ∧ Below W.heap.size W w' := by
      intro W
      have C := Aside0.mk (cI W)
      clear cI hs
      go_enter Tryd.func44, Tryd.ntmps44
      go_wp2_with (go_at_call 57; (with_reducible refine C.out.mono ?_); rintro e w' ⟨rfl, hb⟩)
      go_ret
      exact ⟨rfl, hb⟩
    have C := Aside0.mk (cF w)
    clear cI cF hs
    go_enter Tryd.func27, Tryd.ntmps27
    go_wp2_with (go_at_call 44; (with_reducible refine C.out.mono ?_); rintro e w' ⟨rfl, hb⟩)
    go_ret
    exact ⟨rfl, hb⟩
  · cases h
def RTrim.signs : List UInt8 := [97, 98, 99, 100, 101, 102, 103, 104, 105, 106, 107, 108, 109, 110, 111, 112, 113, 114, 115, 116, 117, 118, 119, 120, 121, 122, 48, 49, 50, 51, 52, 53, 54, 55, 56, 57, 46, 45, 95]
def RTrim.f (a0 : ByteArray) (a1 : ByteArray) : Option (ByteArray) := if a1.data.toList = RTrim.signs then (if a0.size ≤ 9223372036854775807 then (some (⟨(Lib.trimS a0.data.toList RTrim.signs).toArray⟩ : ByteArray)) else (none)) else (none)
theorem RTrim.calls (a0 : ByteArray) (a1 : ByteArray) (r : ByteArray) (w : World) (h : RTrim.f a0 a1 = some r) :
    Calls Tryd.prog 26 #[.string a0, .string a1] w fun e w' => e = .returned (.string r) ∧ Below w.heap.size w w' := by
  unfold RTrim.f at h
  split at h
  · rename_i h1
    split at h
    · rename_i h2
      obtain rfl := Option.some.inj h
      have h3 := Any.strings_Trim_laid Go.Proofs.Tryd.lays160 (by kernel_rfl) a0 a1 w h2 (by
        have : a1.data.toList.length = 39 := by rw [h1]; rfl
        have h4 : a1.size = a1.data.toList.length := by rw [Array.length_toList]; rfl
        omega) (by rw [h1]; exact ascii_of_all (by decide))
      rw [h1] at h3
      exact h3
    · cases h
  · cases h
def okn (l : List UInt8) : Bool := !(l == []) && !(l == [46]) && !(l == [46, 46]) && decide (l.length ≤ 11) && l.all (fun b => GBad.signs.contains b)
def paths_Right.f (a0 : ByteArray) : Option (Bool) := if a0.size ≤ 9223372036854775807 then (some (okn a0.data.toList)) else (none)
theorem RTrim.dw (p : UInt8 → Bool) : ∀ l : List UInt8, l.dropWhile p = [] ↔ ∀ x ∈ l, p x = true
  | [] => by simp
  | a :: l => by
    cases h : p a with
    | true => simp [List.dropWhile, h, RTrim.dw p l]
    | false => simp [List.dropWhile, h]
theorem RTrim.empty (l : List UInt8) : (Lib.trimS l RTrim.signs == []) = l.all (fun b => GBad.signs.contains b) := by
  have key : Lib.trimS l RTrim.signs = [] ↔ l.all (fun b => GBad.signs.contains b) = true := by
    show Lib.trimS l GBad.signs = [] ↔ _
    unfold Lib.trimS Lib.trimLeftS Lib.trimRightS
    simp only [RTrim.dw, List.mem_reverse, List.all_eq_true]
    constructor
    · intro h x hx
      by_cases hc : GBad.signs.contains x = true
      · exact hc
      · have hx' : x ∈ l.reverse.dropWhile (GBad.signs.contains ·) := by
          have hs : x ∈ l.reverse.takeWhile (GBad.signs.contains ·) ++ l.reverse.dropWhile (GBad.signs.contains ·) := by
            rw [List.takeWhile_append_dropWhile]; exact List.mem_reverse.2 hx
          rcases List.mem_append.1 hs with h1 | h1
          · exact absurd (List.all_takeWhile (l := l.reverse) (p := (GBad.signs.contains ·)) |> List.all_eq_true.1 |> (· x h1)) hc
          · exact h1
        exact h x hx'
    · intro h x hx
      exact h x (List.mem_reverse.1 ((List.dropWhile_sublist _).subset hx))
  cases h : l.all (fun b => GBad.signs.contains b) with
  | true => rw [key.2 h]; rfl
  | false => exact beq_eq_false_iff_ne.2 (fun e => by rw [key.1 e] at h; cases h)
set_option maxHeartbeats 8000000 in
set_option maxRecDepth 100000 in
theorem paths_Right.calls (a0 : ByteArray) (r : Bool) (w : World) (h : paths_Right.f a0 = some r) :
    Calls Tryd.prog 11 #[.string a0] w fun e w' => e = .returned (.bool r) ∧ Below w.heap.size w w' := by
  unfold paths_Right.f at h
  split at h
  · rename_i hs
    obtain rfl := Option.some.inj h
    clear h
    have hB := Below.refl w.heap.size w
    have hl : a0.toList = a0.data.toList := Lib.toList_data a0
    have hsz : a0.size = a0.data.toList.length := Lib.size_eq a0
    by_cases h1 : a0.toList = []
    · have b1 : (a0.toList == ([] : List UInt8)) = true := beq_iff_eq.2 h1
      have hok : okn a0.data.toList = false := by rw [← hl, h1]; rfl
      rw [hok]
      clear hl hsz h1 hok
      go_enter Tryd.func11, Tryd.ntmps11
      go_wp2
      go_ret
      exact ⟨rfl, hB⟩
    · have b1 : (a0.toList == ([] : List UInt8)) = false := beq_eq_false_iff_ne.2 h1
      by_cases h2 : a0.toList = [46]
      · have b2 : (a0.toList == ([46] : List UInt8)) = true := beq_iff_eq.2 h2
        have hok : okn a0.data.toList = false := by rw [← hl, h2]; rfl
        rw [hok]
        clear hl hsz h1 h2 hok
        go_enter Tryd.func11, Tryd.ntmps11
        go_wp2
        go_ret
        exact ⟨rfl, hB⟩
      · have b2 : (a0.toList == ([46] : List UInt8)) = false := beq_eq_false_iff_ne.2 h2
        by_cases h3 : a0.toList = [46, 46]
        · have b3 : (a0.toList == ([46, 46] : List UInt8)) = true := beq_iff_eq.2 h3
          have hok : okn a0.data.toList = false := by rw [← hl, h3]; rfl
          rw [hok]
          clear hl hsz h1 h2 h3 hok
          go_enter Tryd.func11, Tryd.ntmps11
          go_wp2
          go_ret
          exact ⟨rfl, hB⟩
        · have b3 : (a0.toList == ([46, 46] : List UInt8)) = false := beq_eq_false_iff_ne.2 h3
          by_cases h4 : a0.size ≤ 11
          · have b4 : decide ((a0.size : Int) ≤ 11) = true := decide_eq_true (by omega)
            have hok : okn a0.data.toList = a0.data.toList.all (fun b => GBad.signs.contains b) := by
              unfold okn
              rw [← hl, b1, b2, b3, hl, ← hsz, decide_eq_true h4]
              rfl
            rw [hok]
            have ct := fun W : World => RTrim.calls a0 (⟨#[97, 98, 99, 100, 101, 102, 103, 104, 105, 106, 107, 108, 109, 110, 111, 112, 113, 114, 115, 116, 117, 118, 119, 120, 121, 122, 48, 49, 50, 51, 52, 53, 54, 55, 56, 57, 46, 45, 95]⟩ : ByteArray) (⟨(Lib.trimS a0.data.toList RTrim.signs).toArray⟩ : ByteArray) W (by
              unfold RTrim.f
              exact (if_pos (by rfl)).trans (if_pos hs))
            have he : ((⟨(Lib.trimS a0.data.toList RTrim.signs).toArray⟩ : ByteArray).toList == ([] : List UInt8)) = a0.data.toList.all (fun b => GBad.signs.contains b) := by
              rw [Lib.toList_data]
              exact RTrim.empty _
            generalize (⟨(Lib.trimS a0.data.toList RTrim.signs).toArray⟩ : ByteArray) = T at *
            have CT := Aside0.mk ct
            have HB := Aside0.mk hB
            clear ct hB hok hl hsz h1 h2 h3 h4 hs
            cases hall : a0.data.toList.all (fun b => GBad.signs.contains b) with
            | true =>
              rw [hall] at he
              have cg := fun W : World => GBad.calls a0 false W (by unfold GBad.f; rw [if_pos hall])
              have CG := Aside0.mk cg
              clear cg hall
              go_enter Tryd.func11, Tryd.ntmps11
              go_wp2_with (first | (go_at_call 26; (with_reducible refine (CT.out _).mono ?_); rintro e w' ⟨rfl, hb⟩; replace HB := Aside0.mk (HB.out.trans (hb.mono HB.out.size)); clear hb) | (go_at_call 27; (with_reducible refine (CG.out _).mono ?_); rintro e w' ⟨rfl, hb⟩; replace HB := Aside0.mk (HB.out.trans (hb.mono HB.out.size)); clear hb))
              go_ret
              exact ⟨rfl, HB.out⟩
            | false =>
              rw [hall] at he
              clear hall
              go_enter Tryd.func11, Tryd.ntmps11
              go_wp2_with (first | (go_at_call 26; (with_reducible refine (CT.out _).mono ?_); rintro e w' ⟨rfl, hb⟩; replace HB := Aside0.mk (HB.out.trans (hb.mono HB.out.size)); clear hb))
              go_ret
              exact ⟨rfl, HB.out⟩
          · have b4 : decide ((a0.size : Int) ≤ 11) = false := decide_eq_false (by omega)
            have hok : okn a0.data.toList = false := by
              unfold okn
              rw [← hsz, decide_eq_false h4]
              simp
            rw [hok]
            clear hl hsz h1 h2 h3 h4 hok hs
            go_enter Tryd.func11, Tryd.ntmps11
            go_wp2
            go_ret
            exact ⟨rfl, hB⟩
  · cases h
/-! ### paths_odd: function 25 -/
def paths_odd.f (a0 : ByteArray) : Option (Bool) := (paths_Right.f a0).bind fun t107 => (some (!t107))
set_option maxHeartbeats 8000000 in
set_option maxRecDepth 100000 in
theorem paths_odd.calls (a0 : ByteArray) (r : Bool) (w : World) (h : paths_odd.f a0 = some r) :
    Calls Tryd.prog 25 #[.string a0] w fun e w' => e = .returned (.bool r) ∧ Below w.heap.size w w' := by
  have HB := Aside0.mk (Below.refl w.heap.size w)
  have H : ((paths_Right.f a0).bind fun t107 => (some (!t107))) = some r := h
  clear h
  replace H := Option.bind_eq_some_iff.mp H
  obtain ⟨t107, A20, H⟩ := H
  replace H : (some (!t107)) = some r := H
  have A2 := Aside0.mk A20
  clear A20
  obtain rfl := Option.some.inj H
  go_enter Tryd.func25, Tryd.ntmps25
  go_wp2_with (first | ((with_reducible refine gate_callee (f := 11) rfl ?_); refine goesL_ (some 4) rfl rfl Tryd.func11 (by kernel_rfl) rfl #[.string a0] rfl (by (try simp only [List.map_toArray, List.map_cons, List.map_nil]); first | done | rfl | (simp only [List.length_drop, List.length_take]; rfl)) ?_; (with_reducible refine (paths_Right.calls a0 t107 _ A2.out).mono ?_); rintro e w3 ⟨rfl, hb⟩; refine ⟨_, rfl, ?_⟩; have n0_ := Aside0.mk (below_step (by repeat (first | (with_reducible first | exact HB.out | apply below_alloc | apply pw_below_drewN | apply below_drew1) | exact HB.out)) hb); clear HB; have HB := n0_; clear n0_; (try clear hb); (try clear hb2); (try clear hk); (try clear hi)))
  go_ret
  exact ⟨by first | rfl | (simp [errW_none, errW_some] <;> rfl) | (simp [*, errW_none, errW_some] <;> rfl), by repeat (first | (with_reducible first | exact HB.out | apply below_alloc | apply pw_below_drewN | apply below_drew1) | exact HB.out)⟩

/-! ### GOdd: a call with a constant function -/
def GOdd.l0 : List ByteArray → Option (Bool)
  | [] => some false
  | x :: r => (paths_odd.f x).bind fun t => if t = true then some true else GOdd.l0 r
def GOdd.f (l0 : List ByteArray) : Option (Bool) := GOdd.l0 l0
set_option maxHeartbeats 2000000 in
set_option maxRecDepth 100000 in
theorem GOdd.index (A0 : Option Addr) (c0 : Nat) (l0 : List ByteArray) (r : Bool) (w : World) (hr0 : Kd.C Kd.string w A0 l0.length l0) (h : GOdd.f l0 = some r) :
    Calls Tryd.prog 36 #[.slice A0 l0.length c0, .func (.func 25) #[] #[]] w fun e w' => (∃ i : Int, e = .returned (.int .i64 i) ∧ (i = -1 ∨ 0 ≤ i) ∧ r = decide (0 ≤ i)) ∧ Below w.heap.size w w' := by
  have HR := Aside0.mk hr0
  have hmax := hr0.2.1
  clear hr0
  have H := Aside0.mk h
  clear h
  go_enter Tryd.func36, Tryd.ntmps36
  go_wp2
  go_loopg [8] l0.length (fun kq v8 wx => ∃ i : Nat, v8 = .int .i64 (i : Int) ∧ i ≤ l0.length ∧ l0.length ≤ i + kq ∧ Aside0 (GOdd.l0 (l0.drop i) = some r) ∧ Aside0 (Below w.heap.size w wx))
  case atStart => exact ⟨0, rfl, Nat.zero_le _, by omega, H, ⟨Below.refl _ w⟩⟩
  case round =>
    obtain ⟨i, rfl, hi, hfu, HA, HB⟩ := hrel
    by_cases hlt : i < l0.length
    · obtain ⟨k1, rfl⟩ : ∃ k1, gk = k1 + 1 := ⟨gk - 1, by omega⟩
      have hd : l0.drop i = l0[i] :: l0.drop (i + 1) := List.drop_eq_getElem_cons hlt
      have hh := HA.out
      rw [hd] at hh
      simp only [GOdd.l0] at hh
      obtain ⟨t, ht, hh2⟩ := Option.bind_eq_some_iff.1 hh
      clear hh
      clear HA hd
      have hltI : decide ((i : Int) < (l0.length : Int)) = true := decide_eq_true (by omega)
      have p1 : 0 ≤ (i : Int) := by omega
      have q1 : (i : Int) < (l0.length : Int) := by omega
      obtain ⟨ad, e1, hx⟩ := Kd.at_string (Kd.C_below HR.out HB.out) (i : Int) p1 q1
      cases e1
      have hv : rdOf ByteArray.empty l0 (i : Int) = l0[i] := by
        simp [rdOf, hlt]
      rw [hv, Int.toNat_natCast] at hx
      generalize l0[i] = X at *
      have hwr : wrap64 ((i : Int) + 1) = ((i + 1 : Nat) : Int) := by
        simp only [wrap64, IntKind.wrap]
        omega
      have c : Calls Tryd.prog 25 #[.string X] wr fun e w' => e = .returned (.bool t) ∧ Below wr.heap.size wr w' := paths_odd.calls X t wr ht
      have C := Aside0.mk c
      have HH := Aside0.mk hh2
      clear c ht hh2
      replace p1 := eq_true p1
      replace q1 := eq_true q1
      cases t with
      | true =>
        go_wp2_with (go_at_call 25; (with_reducible refine C.out.mono ?_); rintro e w' ⟨rfl, hb⟩)
        go_ret
        have hr := HH.out
        have : r = true := by simpa using hr.symm
        subst this
        exact ⟨⟨(i : Int), rfl, Or.inr (by omega), by simp⟩, HB.out.trans (hb.mono HB.out.size)⟩
      | false =>
        go_wp2_with (go_at_call 25; (with_reducible refine C.out.mono ?_); rintro e w' ⟨rfl, hb⟩)
        go_roundg k1
        case measure => omega
        case rel => exact ⟨i + 1, by first | rfl | (rw [hwr]; done), by omega, by omega, ⟨by simpa using HH.out⟩, ⟨HB.out.trans (hb.mono HB.out.size)⟩⟩
    · have hltI : decide ((i : Int) < (l0.length : Int)) = false := decide_eq_false (by omega)
      have hh := HA.out
      rw [List.drop_eq_nil_of_le (by omega)] at hh
      have : r = false := by simpa [GOdd.l0] using hh.symm
      subst this
      go_wp2
      go_ret
      exact ⟨⟨-1, rfl, Or.inl rfl, by decide⟩, HB.out⟩
theorem GOdd.calls (A0 : Option Addr) (c0 : Nat) (l0 : List ByteArray) (r : Bool) (w : World) (hr0 : Kd.C Kd.string w A0 l0.length l0) (_hc0 : l0.length ≤ c0) (h : GOdd.f l0 = some r) :
    Calls Tryd.prog 24 #[.slice A0 l0.length c0, .func (.func 25) #[] #[]] w fun e w' => e = .returned (.bool r) ∧ Below w.heap.size w w' := by
  have C := Aside0.mk (GOdd.index A0 c0 l0 r w hr0 h)
  clear hr0 h
  generalize l0.length = n at *
  go_enter Tryd.func24, Tryd.ntmps24
  go_wp2_with (go_at_call 36; (with_reducible refine C.out.mono ?_); rintro e w' ⟨⟨i, rfl, hi, rfl⟩, hb⟩)
  go_ret
  exact ⟨rfl, hb⟩
/-! ### paths_Split: function 9 -/
def paths_Split.j0 : Nat → ByteArray → Bool → Option (List ByteArray × Int)
  | 0, _, _ => none
  | k + 1, x4, x12 => if x12 = true then (some (([] : List ByteArray), 4)) else (if x4.toList = ([] : List UInt8) then (some (([] : List ByteArray), 0)) else ((strings_Split.f x4 (⟨#[47]⟩ : ByteArray)).bind fun t110 => ((GOdd.f t110).bind fun t113 => (if t113 = true then (some (([] : List ByteArray), 4)) else (some (t110, 0))))))
def paths_Split.f (k : Nat) (a0 : ByteArray) : Option (List ByteArray × Int) := (strings_CutPrefix.f a0 (⟨#[47]⟩ : ByteArray)).bind fun bt108 => (if bt108.2 = true then (paths_Split.j0 k bt108.1 (decide ((a0.size : Int) > 255))) else (paths_Split.j0 k bt108.1 true))
theorem paths_Split.mono_l : ∀ k, (∀ y0 y1, LeO (paths_Split.j0 k y0 y1) (paths_Split.j0 (k + 1) y0 y1))
  | 0 => fun _ _ r h => by simp [paths_Split.j0] at h
  | k + 1 => by
    have ih0 := paths_Split.mono_l k
    · intro y0 y1
      unfold paths_Split.j0
      repeat' first
      | (with_reducible exact ih0 _ _)
      | (with_reducible exact LeO.refl _)
      | (with_reducible exact LeO.none _)
      | (with_reducible refine LeO.ite ?_ ?_)
      | (with_reducible refine LeO.bind ?_ (fun _ => ?_))
      | exact ih0 _ _
      | exact LeO.none _
      | refine LeO.ite ?_ ?_
      | refine LeO.bind ?_ (fun _ => ?_)
theorem paths_Split.mono : ∀ a0 k, LeO (paths_Split.f k a0) (paths_Split.f (k + 1) a0) := by
  intro a0 k
  have ih0 := paths_Split.mono_l k
  unfold paths_Split.f
  repeat' first
      | (with_reducible exact ih0 _ _)
      | (with_reducible exact LeO.refl _)
      | (with_reducible exact LeO.none _)
      | (with_reducible refine LeO.ite ?_ ?_)
      | (with_reducible refine LeO.bind ?_ (fun _ => ?_))
      | exact ih0 _ _
      | exact LeO.none _
      | refine LeO.ite ?_ ?_
      | refine LeO.bind ?_ (fun _ => ?_)
set_option maxHeartbeats 8000000 in
set_option maxRecDepth 100000 in
theorem paths_Split.calls (k : Nat) (a0 : ByteArray) (r1 : List ByteArray) (r2 : Int) (w : World) (h : paths_Split.f k a0 = some (r1, r2)) :
    Calls Tryd.prog 9 #[.string a0] w fun e w' => ∃ v0_ : Value, e = .returned (.tuple #[v0_, .int .i64 r2]) ∧ Kd.R Kd.string 9 w' w.heap.size (fun _ => True) v0_ r1 ∧ Below w.heap.size w w' := by
  have HB := Aside0.mk (Below.refl w.heap.size w)
  have H : ((strings_CutPrefix.f a0 (⟨#[47]⟩ : ByteArray)).bind fun bt108 => (if bt108.2 = true then (paths_Split.j0 k bt108.1 (decide ((a0.size : Int) > 255))) else (paths_Split.j0 k bt108.1 true))) = some (r1, r2) := h
  clear h
  replace H := Option.bind_eq_some_iff.mp H
  obtain ⟨⟨t108, t109⟩, A20, H⟩ := H
  replace H : (if t109 = true then (paths_Split.j0 k t108 (decide ((a0.size : Int) > 255))) else (paths_Split.j0 k t108 true)) = some (r1, r2) := H
  have A2 := Aside0.mk A20
  clear A20
  have HC3 := Aside0.mk H
  clear H
  go_enter Tryd.func9, Tryd.ntmps9
  go_upto_region 2 with (first | ((with_reducible refine gate_callee (f := 22) rfl ?_); refine goesL_ (some 9) rfl rfl Tryd.func22 (by kernel_rfl) rfl #[.string a0, .string (⟨#[47]⟩ : ByteArray)] rfl (by (try simp only [List.map_toArray, List.map_cons, List.map_nil]); first | done | rfl | (simp only [List.length_drop, List.length_take]; rfl)) ?_; (with_reducible refine (strings_CutPrefix.calls a0 (⟨#[47]⟩ : ByteArray) t108 t109 _ A2.out).mono ?_); rintro e w' ⟨rfl, ⟨nd, rfl⟩⟩; refine ⟨_, rfl, ?_⟩))
  (try simp only [Act.put, List.setIfInBounds_toArray, List.set_cons_zero, List.set_cons_succ])
  go_cut [12] (fun v12 wc => ∃ (kq : Nat) (x12_2 : Bool), v12 = .bool x12_2 ∧ Aside0 (paths_Split.j0 kq t108 x12_2 = some (r1, r2)) ∧ Aside0 (kq ≤ k) ∧ Aside0 (Below w.heap.size w wc))
  case first =>
    have H := HC3.out
    clear HC3
    by_cases c4 : t109 = true
    · subst c4
      have H1 : (paths_Split.j0 k t108 (decide ((a0.size : Int) > 255))) = some (r1, r2) := by rw [if_pos rfl] at H; exact H
      clear H
      have H := H1
      clear H1
      have H' := Aside0.mk H
      clear H
      go_wp2
      go_meet
      case rel => exact ⟨_, (decide ((a0.size : Int) > 255)), (by first | rfl | (simp; done) | (simp [*]; done) | exact gw_ne _ | exact gw_eq _), H', ⟨by first | omega | exact Nat.le_refl _⟩, ⟨by repeat (first | (with_reducible first | exact HB.out | apply below_alloc | apply pw_below_drewN | apply below_drew1) | exact HB.out)⟩⟩
    · replace c4 := Bool.eq_false_iff.mpr c4
      subst c4
      have H1 : (paths_Split.j0 k t108 true) = some (r1, r2) := by rw [if_neg (show ¬ (false = true) by decide)] at H; exact H
      clear H
      have H := H1
      clear H1
      have H' := Aside0.mk H
      clear H
      go_wp2
      go_meet
      case rel => exact ⟨_, (true), (by first | rfl | (simp; done) | (simp [*]; done) | exact gw_ne _ | exact gw_eq _), H', ⟨by first | omega | exact Nat.le_refl _⟩, ⟨by repeat (first | (with_reducible first | exact HB.out | apply below_alloc | apply pw_below_drewN | apply below_drew1) | exact HB.out)⟩⟩
  case rest =>
    clear HC3
    try clear c2
    try clear p2
    try clear c4
    obtain ⟨kq, x12_2, rfl, HA, HJ2, HB⟩ := hcut
    cases kq with
    | zero => exact absurd HA.out (by simp [paths_Split.j0])
    | succ kj2 =>
      have H := HA.out
      clear HA
      simp only [paths_Split.j0] at H
      by_cases c5 : x12_2 = true
      · subst c5
        have H1 : (some (([] : List ByteArray), 4)) = some (r1, r2) := by rw [if_pos rfl] at H; exact H
        clear H
        have H := H1
        clear H1
        simp only [Option.some.injEq, Prod.mk.injEq] at H
        obtain ⟨rfl, rfl⟩ := H
        go_wp2
        go_ret2
        exact ⟨_, by first | rfl | (simp [errW_none, errW_some] <;> rfl) | (simp [*, errW_none, errW_some] <;> rfl), by first | exact Kd.R_nil _ _ _ _ _ | exact Kd.N_nil _ _ _ _ _ | exact Kd.V_nil _ _ _ _ _ | exact Kd.Q_nil _ _ _ _ _ | exact Kd.S_nil _ _ _ _ _, by repeat (first | (with_reducible first | exact HB.out | apply below_alloc | apply pw_below_drewN | apply below_drew1) | exact HB.out)⟩
      · replace c5 := Bool.eq_false_iff.mpr c5
        subst c5
        have H1 : (if t108.toList = ([] : List UInt8) then (some (([] : List ByteArray), 0)) else ((strings_Split.f t108 (⟨#[47]⟩ : ByteArray)).bind fun t110 => ((GOdd.f t110).bind fun t113 => (if t113 = true then (some (([] : List ByteArray), 4)) else (some (t110, 0)))))) = some (r1, r2) := by rw [if_neg (show ¬ (false = true) by decide)] at H; exact H
        clear H
        have H := H1
        clear H1
        by_cases c6 : t108.toList = ([] : List UInt8)
        · rw [if_pos c6] at H
          have c6b0 : (t108.toList == ([] : List UInt8)) = true := beq_iff_eq.mpr c6
          have c6b1 : (t108.toList != ([] : List UInt8)) = false := bne_eq_false_iff_eq.mpr c6
          clear c6
          simp only [Option.some.injEq, Prod.mk.injEq] at H
          obtain ⟨rfl, rfl⟩ := H
          go_wp2
          go_ret2
          exact ⟨_, by first | rfl | (simp [errW_none, errW_some] <;> rfl) | (simp [*, errW_none, errW_some] <;> rfl), by first | exact Kd.R_nil _ _ _ _ _ | exact Kd.N_nil _ _ _ _ _ | exact Kd.V_nil _ _ _ _ _ | exact Kd.Q_nil _ _ _ _ _ | exact Kd.S_nil _ _ _ _ _, by repeat (first | (with_reducible first | exact HB.out | apply below_alloc | apply pw_below_drewN | apply below_drew1) | exact HB.out)⟩
        · rw [if_neg c6] at H
          have c6b0 : (t108.toList == ([] : List UInt8)) = false := beq_eq_false_iff_ne.mpr c6
          have c6b1 : (t108.toList != ([] : List UInt8)) = true := bne_iff_ne.mpr c6
          replace H := Option.bind_eq_some_iff.mp H
          obtain ⟨t110, A70, H⟩ := H
          replace H : ((GOdd.f t110).bind fun t113 => (if t113 = true then (some (([] : List ByteArray), 4)) else (some (t110, 0)))) = some (r1, r2) := H
          have A7 := Aside0.mk A70
          clear A70
          replace H := Option.bind_eq_some_iff.mp H
          obtain ⟨t113, A80, H⟩ := H
          replace H : (if t113 = true then (some (([] : List ByteArray), 4)) else (some (t110, 0))) = some (r1, r2) := H
          have A8 := Aside0.mk A80
          clear A80
          by_cases c9 : t113 = true
          · subst c9
            have H1 : (some (([] : List ByteArray), 4)) = some (r1, r2) := by rw [if_pos rfl] at H; exact H
            clear H
            have H := H1
            clear H1
            simp only [Option.some.injEq, Prod.mk.injEq] at H
            obtain ⟨rfl, rfl⟩ := H
            go_wp2_with (first | ((with_reducible refine gate_callee (f := 23) rfl ?_); refine goesL_ (some 24) rfl rfl Tryd.func23 (by kernel_rfl) rfl #[.string t108, .string (⟨#[47]⟩ : ByteArray)] rfl (by (try simp only [List.map_toArray, List.map_cons, List.map_nil]); first | done | rfl | (simp only [List.length_drop, List.length_take]; rfl)) ?_; (with_reducible refine (strings_Split.calls t108 (⟨#[47]⟩ : ByteArray) t110 _ A7.out).mono ?_); rintro e w10 ⟨v111, rfl, ho0, hb⟩; refine ⟨_, rfl, ?_⟩; have n0_ := Aside0.mk (Kd.R_lower ho0 (below_size (by repeat (first | (with_reducible first | exact HB.out | apply below_alloc | apply pw_below_drewN | apply below_drew1) | exact HB.out)))); have n1_ := Aside0.mk (below_step (by repeat (first | (with_reducible first | exact HB.out | apply below_alloc | apply pw_below_drewN | apply below_drew1) | exact HB.out)) hb); clear HB; have HO112 := n0_; have HB := n1_; clear n0_ n1_; (try clear hb); (try clear hb2); (try clear hk); (try clear hi); (try clear ho0); obtain ⟨Ao11, co11, eo11⟩ := Kd.R_slice HO112.out; subst eo11) | ((with_reducible refine gate_callee (f := 24) rfl ?_); refine goesL_ (some 26) rfl rfl Tryd.func24 (by kernel_rfl) rfl #[.slice Ao11 t110.length co11, .func (.func 25) #[] #[]] rfl (by (try simp only [List.map_toArray, List.map_cons, List.map_nil]); first | done | rfl | (simp only [List.length_drop, List.length_take]; rfl)) ?_; (with_reducible refine (GOdd.calls _ _ t110 true _ ?side1 ?side2 A8.out).mono ?_); (case side1 => repeat (first | exact (Kd.R_reads' HO112.out).2.2 | (with_reducible refine Kd.C_alloc ?_ _) | (with_reducible refine Kd.C_drewN ?_ _) | (with_reducible refine Kd.C_drew ?_))); (case side2 => exact (Kd.R_reads' HO112.out).2.1); rintro e w12 ⟨rfl, hb⟩; refine ⟨_, rfl, ?_⟩; have n0_ := Aside0.mk (Kd.R_below (by (with_reducible repeat (first | apply Kd.R_alloc | apply Kd.R_drewN | apply Kd.R_drew)); exact HO112.out) hb); have n1_ := Aside0.mk (below_step (by repeat (first | (with_reducible first | exact HB.out | apply below_alloc | apply pw_below_drewN | apply below_drew1) | exact HB.out)) hb); clear HO112; clear HB; have HO112 := n0_; have HB := n1_; clear n0_ n1_; (try clear hb); (try clear hb2); (try clear hk); (try clear hi)))
            go_ret2
            exact ⟨_, by first | rfl | (simp [errW_none, errW_some] <;> rfl) | (simp [*, errW_none, errW_some] <;> rfl), by first | exact Kd.R_nil _ _ _ _ _ | exact Kd.N_nil _ _ _ _ _ | exact Kd.V_nil _ _ _ _ _ | exact Kd.Q_nil _ _ _ _ _ | exact Kd.S_nil _ _ _ _ _, by repeat (first | (with_reducible first | exact HB.out | apply below_alloc | apply pw_below_drewN | apply below_drew1) | exact HB.out)⟩
          · replace c9 := Bool.eq_false_iff.mpr c9
            subst c9
            have H1 : (some (t110, 0)) = some (r1, r2) := by rw [if_neg (show ¬ (false = true) by decide)] at H; exact H
            clear H
            have H := H1
            clear H1
            simp only [Option.some.injEq, Prod.mk.injEq] at H
            obtain ⟨rfl, rfl⟩ := H
            go_wp2_with (first | ((with_reducible refine gate_callee (f := 23) rfl ?_); refine goesL_ (some 24) rfl rfl Tryd.func23 (by kernel_rfl) rfl #[.string t108, .string (⟨#[47]⟩ : ByteArray)] rfl (by (try simp only [List.map_toArray, List.map_cons, List.map_nil]); first | done | rfl | (simp only [List.length_drop, List.length_take]; rfl)) ?_; (with_reducible refine (strings_Split.calls t108 (⟨#[47]⟩ : ByteArray) t110 _ A7.out).mono ?_); rintro e w13 ⟨v111, rfl, ho0, hb⟩; refine ⟨_, rfl, ?_⟩; have n0_ := Aside0.mk (Kd.R_lower ho0 (below_size (by repeat (first | (with_reducible first | exact HB.out | apply below_alloc | apply pw_below_drewN | apply below_drew1) | exact HB.out)))); have n1_ := Aside0.mk (below_step (by repeat (first | (with_reducible first | exact HB.out | apply below_alloc | apply pw_below_drewN | apply below_drew1) | exact HB.out)) hb); clear HB; have HO112 := n0_; have HB := n1_; clear n0_ n1_; (try clear hb); (try clear hb2); (try clear hk); (try clear hi); (try clear ho0); obtain ⟨Ao14, co14, eo14⟩ := Kd.R_slice HO112.out; subst eo14) | ((with_reducible refine gate_callee (f := 24) rfl ?_); refine goesL_ (some 26) rfl rfl Tryd.func24 (by kernel_rfl) rfl #[.slice Ao14 t110.length co14, .func (.func 25) #[] #[]] rfl (by (try simp only [List.map_toArray, List.map_cons, List.map_nil]); first | done | rfl | (simp only [List.length_drop, List.length_take]; rfl)) ?_; (with_reducible refine (GOdd.calls _ _ t110 false _ ?side1 ?side2 A8.out).mono ?_); (case side1 => repeat (first | exact (Kd.R_reads' HO112.out).2.2 | (with_reducible refine Kd.C_alloc ?_ _) | (with_reducible refine Kd.C_drewN ?_ _) | (with_reducible refine Kd.C_drew ?_))); (case side2 => exact (Kd.R_reads' HO112.out).2.1); rintro e w15 ⟨rfl, hb⟩; refine ⟨_, rfl, ?_⟩; have n0_ := Aside0.mk (Kd.R_below (by (with_reducible repeat (first | apply Kd.R_alloc | apply Kd.R_drewN | apply Kd.R_drew)); exact HO112.out) hb); have n1_ := Aside0.mk (below_step (by repeat (first | (with_reducible first | exact HB.out | apply below_alloc | apply pw_below_drewN | apply below_drew1) | exact HB.out)) hb); clear HO112; clear HB; have HO112 := n0_; have HB := n1_; clear n0_ n1_; (try clear hb); (try clear hb2); (try clear hk); (try clear hi)))
            go_ret2
            exact ⟨_, by first | rfl | (simp [errW_none, errW_some] <;> rfl) | (simp [*, errW_none, errW_some] <;> rfl), by (with_reducible repeat (first | apply Kd.R_alloc | apply Kd.R_drewN | apply Kd.R_drew)); exact HO112.out, by repeat (first | (with_reducible first | exact HB.out | apply below_alloc | apply pw_below_drewN | apply below_drew1) | exact HB.out)⟩

/-! ### strings_Join: function 32 -/
def strings_Join.f (l0 : List ByteArray) (a1 : ByteArray) : Option (ByteArray) := if l0.length ≤ 140737488355328 then (if (Lib.join (l0.map (·.data.toList)) a1.data.toList).length ≤ 140737488355328 then (some (⟨(Lib.join (l0.map (·.data.toList)) a1.data.toList).toArray⟩ : ByteArray)) else (none)) else (none)
theorem strings_Join.calls (A0 : Option Addr) (c0 : Nat) (l0 : List ByteArray) (a1 : ByteArray) (r : ByteArray) (w : World) (hr0 : Kd.C Kd.string w A0 l0.length l0) (hc0 : l0.length ≤ c0) (h : strings_Join.f l0 a1 = some r) :
    Calls Tryd.prog 32 #[.slice A0 l0.length c0, .string a1] w fun e w' => e = .returned (.string r) ∧ Below w.heap.size w w' := by
  unfold strings_Join.f at h
  split at h
  · rename_i h1
    split at h
    · rename_i h2
      obtain rfl := Option.some.inj h
      cases l0 with
      | nil => exact (Go.Proofs.Tryd.strings_Join_none A0 c0 a1 w).mono fun e w' ⟨he, hw⟩ => ⟨he, hw ▸ Below.refl _ _⟩
      | cons x l =>
        obtain ⟨bk, o, rfl, hlt, hcells⟩ := kd_cells hr0 (by simp)
        exact Go.Proofs.Tryd.strings_Join bk o c0 (x :: l) a1 w hcells hlt h1 hc0 h2
    · cases h
  · cases h
/-! ### paths_Join: function 18 -/
def paths_Join.f (l0 : List ByteArray) : Option (ByteArray × Int) := (strings_Join.f l0 (⟨#[47]⟩ : ByteArray)).bind fun t114 => (if 1 + t114.size ≤ 9223372036854775807 then ((GOdd.f l0).bind fun t115 => (if t115 = true then (some ((⟨#[]⟩ : ByteArray), 4)) else (if (((⟨#[47]⟩ : ByteArray) ++ t114).size : Int) > 255 then (some ((⟨#[]⟩ : ByteArray), 4)) else (some ((⟨#[47]⟩ : ByteArray) ++ t114, 0))))) else (none))
set_option maxHeartbeats 8000000 in
set_option maxRecDepth 100000 in
theorem paths_Join.calls (A0 : Option Addr) (c0 : Nat) (l0 : List ByteArray) (r1 : ByteArray) (r2 : Int) (w : World) (hr0 : Kd.C Kd.string w A0 l0.length l0) (hc0 : l0.length ≤ c0) (h : paths_Join.f l0 = some (r1, r2)) :
    Calls Tryd.prog 18 #[.slice A0 l0.length c0] w fun e w' => e = .returned (.tuple #[.string r1, .int .i64 r2]) ∧ Below w.heap.size w w' := by
  have HR0 := Aside0.mk hr0
  have HC0 := Aside0.mk hc0
  clear hr0 hc0
  have HB := Aside0.mk (Below.refl w.heap.size w)
  have H : ((strings_Join.f l0 (⟨#[47]⟩ : ByteArray)).bind fun t114 => (if 1 + t114.size ≤ 9223372036854775807 then ((GOdd.f l0).bind fun t115 => (if t115 = true then (some ((⟨#[]⟩ : ByteArray), 4)) else (if (((⟨#[47]⟩ : ByteArray) ++ t114).size : Int) > 255 then (some ((⟨#[]⟩ : ByteArray), 4)) else (some ((⟨#[47]⟩ : ByteArray) ++ t114, 0))))) else (none))) = some (r1, r2) := h
  clear h
  replace H := Option.bind_eq_some_iff.mp H
  obtain ⟨t114, A20, H⟩ := H
  replace H : (if 1 + t114.size ≤ 9223372036854775807 then ((GOdd.f l0).bind fun t115 => (if t115 = true then (some ((⟨#[]⟩ : ByteArray), 4)) else (if (((⟨#[47]⟩ : ByteArray) ++ t114).size : Int) > 255 then (some ((⟨#[]⟩ : ByteArray), 4)) else (some ((⟨#[47]⟩ : ByteArray) ++ t114, 0))))) else (none)) = some (r1, r2) := H
  have A2 := Aside0.mk A20
  clear A20
  by_cases c3 : 1 + t114.size ≤ 9223372036854775807
  · rw [if_pos c3] at H
    have c3b0 := eq_true c3
    have c3b1 : decide (1 + t114.size ≤ 9223372036854775807) = true := decide_eq_true c3
    try have c3b2 : (9223372036854775807 < 1 + t114.size) = False := eq_false (Nat.not_lt.2 c3)
    replace H := Option.bind_eq_some_iff.mp H
    obtain ⟨t115, A40, H⟩ := H
    replace H : (if t115 = true then (some ((⟨#[]⟩ : ByteArray), 4)) else (if (((⟨#[47]⟩ : ByteArray) ++ t114).size : Int) > 255 then (some ((⟨#[]⟩ : ByteArray), 4)) else (some ((⟨#[47]⟩ : ByteArray) ++ t114, 0)))) = some (r1, r2) := H
    have A4 := Aside0.mk A40
    clear A40
    by_cases c5 : t115 = true
    · subst c5
      have H1 : (some ((⟨#[]⟩ : ByteArray), 4)) = some (r1, r2) := by rw [if_pos rfl] at H; exact H
      clear H
      have H := H1
      clear H1
      simp only [Option.some.injEq, Prod.mk.injEq] at H
      obtain ⟨rfl, rfl⟩ := H
      go_enter Tryd.func18, Tryd.ntmps18
      go_wp2_with (first | ((with_reducible refine gate_callee (f := 32) rfl ?_); refine goesL_ (some 6) rfl rfl Tryd.func32 (by kernel_rfl) rfl #[.slice A0 l0.length c0, .string (⟨#[47]⟩ : ByteArray)] rfl (by (try simp only [List.map_toArray, List.map_cons, List.map_nil]); first | done | rfl | (simp only [List.length_drop, List.length_take]; rfl)) ?_; (with_reducible refine (strings_Join.calls _ _ l0 (⟨#[47]⟩ : ByteArray) t114 _ ?side1 ?side2 A2.out).mono ?_); (case side1 => repeat (first | exact HR0.out | (with_reducible refine Kd.C_alloc ?_ _) | (with_reducible refine Kd.C_drewN ?_ _) | (with_reducible refine Kd.C_drew ?_))); (case side2 => exact HC0.out); rintro e w6 ⟨rfl, hb⟩; refine ⟨_, rfl, ?_⟩; have n0_ := Aside0.mk (below_step (by repeat (first | (with_reducible first | exact HB.out | apply below_alloc | apply pw_below_drewN | apply below_drew1) | exact HB.out)) hb); clear HB; have HB := n0_; clear n0_; (try clear hb); (try clear hb2); (try clear hk); (try clear hi)) | ((with_reducible refine gate_callee (f := 24) rfl ?_); refine goesL_ (some 9) rfl rfl Tryd.func24 (by kernel_rfl) rfl #[.slice A0 l0.length c0, .func (.func 25) #[] #[]] rfl (by (try simp only [List.map_toArray, List.map_cons, List.map_nil]); first | done | rfl | (simp only [List.length_drop, List.length_take]; rfl)) ?_; (with_reducible refine (GOdd.calls _ _ l0 true _ ?side1 ?side2 A4.out).mono ?_); (case side1 => repeat (first | exact (Kd.C_below HR0.out HB.out) | (with_reducible refine Kd.C_alloc ?_ _) | (with_reducible refine Kd.C_drewN ?_ _) | (with_reducible refine Kd.C_drew ?_))); (case side2 => exact HC0.out); rintro e w7 ⟨rfl, hb⟩; refine ⟨_, rfl, ?_⟩; have n0_ := Aside0.mk (below_step (by repeat (first | (with_reducible first | exact HB.out | apply below_alloc | apply pw_below_drewN | apply below_drew1) | exact HB.out)) hb); clear HB; have HB := n0_; clear n0_; (try clear hb); (try clear hb2); (try clear hk); (try clear hi)))
      go_ret2
      exact ⟨by first | rfl | (simp [errW_none, errW_some] <;> rfl) | (simp [*, errW_none, errW_some] <;> rfl), by repeat (first | (with_reducible first | exact HB.out | apply below_alloc | apply pw_below_drewN | apply below_drew1) | exact HB.out)⟩
    · replace c5 := Bool.eq_false_iff.mpr c5
      subst c5
      have H1 : (if (((⟨#[47]⟩ : ByteArray) ++ t114).size : Int) > 255 then (some ((⟨#[]⟩ : ByteArray), 4)) else (some ((⟨#[47]⟩ : ByteArray) ++ t114, 0))) = some (r1, r2) := by rw [if_neg (show ¬ (false = true) by decide)] at H; exact H
      clear H
      have H := H1
      clear H1
      by_cases c8 : (((⟨#[47]⟩ : ByteArray) ++ t114).size : Int) > 255
      · rw [if_pos c8] at H
        have c8b0 : decide (255 < (((⟨#[47]⟩ : ByteArray) ++ t114).size : Int)) = true := decide_eq_true c8
        have c8b9 : decide (255 < (1 + (t114.size : Int))) = true := by have hz_ : ((⟨#[47]⟩ : ByteArray) ++ t114).size = 1 + t114.size := ByteArray.size_append; first | (have hy_ := c8b0; rw [hz_] at hy_; simpa using hy_)
        have c8b1 : decide (255 < ((⟨#[47]⟩ : ByteArray) ++ t114).size) = true := decide_eq_true (by omega)
        clear c8
        simp only [Option.some.injEq, Prod.mk.injEq] at H
        obtain ⟨rfl, rfl⟩ := H
        go_enter Tryd.func18, Tryd.ntmps18
        go_wp2_with (first | ((with_reducible refine gate_callee (f := 32) rfl ?_); refine goesL_ (some 6) rfl rfl Tryd.func32 (by kernel_rfl) rfl #[.slice A0 l0.length c0, .string (⟨#[47]⟩ : ByteArray)] rfl (by (try simp only [List.map_toArray, List.map_cons, List.map_nil]); first | done | rfl | (simp only [List.length_drop, List.length_take]; rfl)) ?_; (with_reducible refine (strings_Join.calls _ _ l0 (⟨#[47]⟩ : ByteArray) t114 _ ?side1 ?side2 A2.out).mono ?_); (case side1 => repeat (first | exact HR0.out | (with_reducible refine Kd.C_alloc ?_ _) | (with_reducible refine Kd.C_drewN ?_ _) | (with_reducible refine Kd.C_drew ?_))); (case side2 => exact HC0.out); rintro e w9 ⟨rfl, hb⟩; refine ⟨_, rfl, ?_⟩; have n0_ := Aside0.mk (below_step (by repeat (first | (with_reducible first | exact HB.out | apply below_alloc | apply pw_below_drewN | apply below_drew1) | exact HB.out)) hb); clear HB; have HB := n0_; clear n0_; (try clear hb); (try clear hb2); (try clear hk); (try clear hi)) | ((with_reducible refine gate_callee (f := 24) rfl ?_); refine goesL_ (some 9) rfl rfl Tryd.func24 (by kernel_rfl) rfl #[.slice A0 l0.length c0, .func (.func 25) #[] #[]] rfl (by (try simp only [List.map_toArray, List.map_cons, List.map_nil]); first | done | rfl | (simp only [List.length_drop, List.length_take]; rfl)) ?_; (with_reducible refine (GOdd.calls _ _ l0 false _ ?side1 ?side2 A4.out).mono ?_); (case side1 => repeat (first | exact (Kd.C_below HR0.out HB.out) | (with_reducible refine Kd.C_alloc ?_ _) | (with_reducible refine Kd.C_drewN ?_ _) | (with_reducible refine Kd.C_drew ?_))); (case side2 => exact HC0.out); rintro e w10 ⟨rfl, hb⟩; refine ⟨_, rfl, ?_⟩; have n0_ := Aside0.mk (below_step (by repeat (first | (with_reducible first | exact HB.out | apply below_alloc | apply pw_below_drewN | apply below_drew1) | exact HB.out)) hb); clear HB; have HB := n0_; clear n0_; (try clear hb); (try clear hb2); (try clear hk); (try clear hi)))
        go_ret2
        exact ⟨by first | rfl | (simp [errW_none, errW_some] <;> rfl) | (simp [*, errW_none, errW_some] <;> rfl), by repeat (first | (with_reducible first | exact HB.out | apply below_alloc | apply pw_below_drewN | apply below_drew1) | exact HB.out)⟩
      · rw [if_neg c8] at H
        have c8b0 : decide (255 < (((⟨#[47]⟩ : ByteArray) ++ t114).size : Int)) = false := decide_eq_false c8
        have c8b9 : decide (255 < (1 + (t114.size : Int))) = false := by have hz_ : ((⟨#[47]⟩ : ByteArray) ++ t114).size = 1 + t114.size := ByteArray.size_append; first | (have hy_ := c8b0; rw [hz_] at hy_; simpa using hy_)
        have c8b1 : decide (255 < ((⟨#[47]⟩ : ByteArray) ++ t114).size) = false := decide_eq_false (by omega)
        clear c8
        simp only [Option.some.injEq, Prod.mk.injEq] at H
        obtain ⟨rfl, rfl⟩ := H
        go_enter Tryd.func18, Tryd.ntmps18
        go_wp2_with (first | ((with_reducible refine gate_callee (f := 32) rfl ?_); refine goesL_ (some 6) rfl rfl Tryd.func32 (by kernel_rfl) rfl #[.slice A0 l0.length c0, .string (⟨#[47]⟩ : ByteArray)] rfl (by (try simp only [List.map_toArray, List.map_cons, List.map_nil]); first | done | rfl | (simp only [List.length_drop, List.length_take]; rfl)) ?_; (with_reducible refine (strings_Join.calls _ _ l0 (⟨#[47]⟩ : ByteArray) t114 _ ?side1 ?side2 A2.out).mono ?_); (case side1 => repeat (first | exact HR0.out | (with_reducible refine Kd.C_alloc ?_ _) | (with_reducible refine Kd.C_drewN ?_ _) | (with_reducible refine Kd.C_drew ?_))); (case side2 => exact HC0.out); rintro e w11 ⟨rfl, hb⟩; refine ⟨_, rfl, ?_⟩; have n0_ := Aside0.mk (below_step (by repeat (first | (with_reducible first | exact HB.out | apply below_alloc | apply pw_below_drewN | apply below_drew1) | exact HB.out)) hb); clear HB; have HB := n0_; clear n0_; (try clear hb); (try clear hb2); (try clear hk); (try clear hi)) | ((with_reducible refine gate_callee (f := 24) rfl ?_); refine goesL_ (some 9) rfl rfl Tryd.func24 (by kernel_rfl) rfl #[.slice A0 l0.length c0, .func (.func 25) #[] #[]] rfl (by (try simp only [List.map_toArray, List.map_cons, List.map_nil]); first | done | rfl | (simp only [List.length_drop, List.length_take]; rfl)) ?_; (with_reducible refine (GOdd.calls _ _ l0 false _ ?side1 ?side2 A4.out).mono ?_); (case side1 => repeat (first | exact (Kd.C_below HR0.out HB.out) | (with_reducible refine Kd.C_alloc ?_ _) | (with_reducible refine Kd.C_drewN ?_ _) | (with_reducible refine Kd.C_drew ?_))); (case side2 => exact HC0.out); rintro e w12 ⟨rfl, hb⟩; refine ⟨_, rfl, ?_⟩; have n0_ := Aside0.mk (below_step (by repeat (first | (with_reducible first | exact HB.out | apply below_alloc | apply pw_below_drewN | apply below_drew1) | exact HB.out)) hb); clear HB; have HB := n0_; clear n0_; (try clear hb); (try clear hb2); (try clear hk); (try clear hi)))
        go_ret2
        exact ⟨by first | rfl | (simp [errW_none, errW_some] <;> rfl) | (simp [*, errW_none, errW_some] <;> rfl), by repeat (first | (with_reducible first | exact HB.out | apply below_alloc | apply pw_below_drewN | apply below_drew1) | exact HB.out)⟩
  · rw [if_neg c3] at H
    exact absurd H (by simp)

/-! ### paths_Parent: function 14 -/
def paths_Parent.f (k : Nat) (a0 : ByteArray) : Option (ByteArray × ByteArray × Int) := (paths_Split.f k a0).bind fun bt116 => (if bt116.2 = 0 then (if (bt116.1.length : Int) = 0 then (some ((⟨#[]⟩ : ByteArray), (⟨#[]⟩ : ByteArray), 1)) else (if 0 ≤ (wrap64 ((bt116.1.length : Int) - 1)) then (if (wrap64 ((bt116.1.length : Int) - 1)) ≤ (bt116.1.length : Int) then ((paths_Join.f (bt116.1.take ((wrap64 ((bt116.1.length : Int) - 1)) : Int).toNat)).bind fun bt124 => (if (wrap64 ((bt116.1.length : Int) - 1)) < (bt116.1.length : Int) then (some (bt124.1, rdOf ByteArray.empty bt116.1 (wrap64 ((bt116.1.length : Int) - 1)), bt124.2)) else (none))) else (none)) else (none))) else (some ((⟨#[]⟩ : ByteArray), (⟨#[]⟩ : ByteArray), bt116.2)))
theorem paths_Parent.mono : ∀ a0 k, LeO (paths_Parent.f k a0) (paths_Parent.f (k + 1) a0) := by
  intro a0 k
  unfold paths_Parent.f
  repeat' first
      | (with_reducible exact paths_Split.mono _ _)
      | (with_reducible exact LeO.refl _)
      | (with_reducible exact LeO.none _)
      | (with_reducible refine LeO.ite ?_ ?_)
      | (with_reducible refine LeO.bind ?_ (fun _ => ?_))
      | exact paths_Split.mono _ _
      | exact LeO.none _
      | refine LeO.ite ?_ ?_
      | refine LeO.bind ?_ (fun _ => ?_)
set_option maxHeartbeats 8000000 in
set_option maxRecDepth 100000 in
theorem paths_Parent.calls (k : Nat) (a0 : ByteArray) (r1 : ByteArray) (r2 : ByteArray) (r3 : Int) (w : World) (h : paths_Parent.f k a0 = some (r1, r2, r3)) :
    Calls Tryd.prog 14 #[.string a0] w fun e w' => e = .returned (.tuple #[.string r1, .string r2, .int .i64 r3]) ∧ Below w.heap.size w w' := by
  have HB := Aside0.mk (Below.refl w.heap.size w)
  have H : ((paths_Split.f k a0).bind fun bt116 => (if bt116.2 = 0 then (if (bt116.1.length : Int) = 0 then (some ((⟨#[]⟩ : ByteArray), (⟨#[]⟩ : ByteArray), 1)) else (if 0 ≤ (wrap64 ((bt116.1.length : Int) - 1)) then (if (wrap64 ((bt116.1.length : Int) - 1)) ≤ (bt116.1.length : Int) then ((paths_Join.f (bt116.1.take ((wrap64 ((bt116.1.length : Int) - 1)) : Int).toNat)).bind fun bt124 => (if (wrap64 ((bt116.1.length : Int) - 1)) < (bt116.1.length : Int) then (some (bt124.1, rdOf ByteArray.empty bt116.1 (wrap64 ((bt116.1.length : Int) - 1)), bt124.2)) else (none))) else (none)) else (none))) else (some ((⟨#[]⟩ : ByteArray), (⟨#[]⟩ : ByteArray), bt116.2)))) = some (r1, r2, r3) := h
  clear h
  replace H := Option.bind_eq_some_iff.mp H
  obtain ⟨⟨t116, t117⟩, A20, H⟩ := H
  replace H : (if t117 = 0 then (if (t116.length : Int) = 0 then (some ((⟨#[]⟩ : ByteArray), (⟨#[]⟩ : ByteArray), 1)) else (if 0 ≤ (wrap64 ((t116.length : Int) - 1)) then (if (wrap64 ((t116.length : Int) - 1)) ≤ (t116.length : Int) then ((paths_Join.f (t116.take ((wrap64 ((t116.length : Int) - 1)) : Int).toNat)).bind fun bt124 => (if (wrap64 ((t116.length : Int) - 1)) < (t116.length : Int) then (some (bt124.1, rdOf ByteArray.empty t116 (wrap64 ((t116.length : Int) - 1)), bt124.2)) else (none))) else (none)) else (none))) else (some ((⟨#[]⟩ : ByteArray), (⟨#[]⟩ : ByteArray), t117))) = some (r1, r2, r3) := H
  have A2 := Aside0.mk A20
  clear A20
  by_cases c3 : t117 = 0
  · rw [if_pos c3] at H
    have c3b0 : (t117 == 0) = true := beq_iff_eq.mpr c3
    have c3b1 : (t117 != 0) = false := bne_eq_false_iff_eq.mpr c3
    clear c3
    by_cases c4 : (t116.length : Int) = 0
    · rw [if_pos c4] at H
      have c4b0 : ((t116.length : Int) == 0) = true := beq_iff_eq.mpr c4
      have c4b1 : ((t116.length : Int) != 0) = false := bne_eq_false_iff_eq.mpr c4
      clear c4
      simp only [Option.some.injEq, Prod.mk.injEq] at H
      obtain ⟨rfl, rfl, rfl⟩ := H
      go_enter Tryd.func14, Tryd.ntmps14
      go_wp2_with (first | (go_at_call 9; (with_reducible refine (paths_Split.calls k a0 t116 t117 _ A2.out).mono ?_); rintro e w5 ⟨v118, rfl, ho0, hb⟩; have n0_ := Aside0.mk (Kd.R_lower ho0 (below_size (by repeat (first | (with_reducible first | exact HB.out | apply below_alloc | apply pw_below_drewN | apply below_drew1) | exact HB.out)))); have n1_ := Aside0.mk (below_step (by repeat (first | (with_reducible first | exact HB.out | apply below_alloc | apply pw_below_drewN | apply below_drew1) | exact HB.out)) hb); clear HB; have HO119 := n0_; have HB := n1_; clear n0_ n1_; (try clear hb); (try clear hb2); (try clear hk); (try clear hi); (try clear ho0); obtain ⟨Ao6, co6, eo6⟩ := Kd.R_slice HO119.out; subst eo6))
      repeat (go_quiet (first | (go_at_call 9; (with_reducible refine (paths_Split.calls k a0 t116 t117 _ A2.out).mono ?_); rintro e w5 ⟨v118, rfl, ho0, hb⟩; have n0_ := Aside0.mk (Kd.R_lower ho0 (below_size (by repeat (first | (with_reducible first | exact HB.out | apply below_alloc | apply pw_below_drewN | apply below_drew1) | exact HB.out)))); have n1_ := Aside0.mk (below_step (by repeat (first | (with_reducible first | exact HB.out | apply below_alloc | apply pw_below_drewN | apply below_drew1) | exact HB.out)) hb); clear HB; have HO119 := n0_; have HB := n1_; clear n0_ n1_; (try clear hb); (try clear hb2); (try clear hk); (try clear hi); (try clear ho0); obtain ⟨Ao6, co6, eo6⟩ := Kd.R_slice HO119.out; subst eo6)); try go_wp2_with (first | (go_at_call 9; (with_reducible refine (paths_Split.calls k a0 t116 t117 _ A2.out).mono ?_); rintro e w5 ⟨v118, rfl, ho0, hb⟩; have n0_ := Aside0.mk (Kd.R_lower ho0 (below_size (by repeat (first | (with_reducible first | exact HB.out | apply below_alloc | apply pw_below_drewN | apply below_drew1) | exact HB.out)))); have n1_ := Aside0.mk (below_step (by repeat (first | (with_reducible first | exact HB.out | apply below_alloc | apply pw_below_drewN | apply below_drew1) | exact HB.out)) hb); clear HB; have HO119 := n0_; have HB := n1_; clear n0_ n1_; (try clear hb); (try clear hb2); (try clear hk); (try clear hi); (try clear ho0); obtain ⟨Ao6, co6, eo6⟩ := Kd.R_slice HO119.out; subst eo6)))
      go_ret3
      exact ⟨by first | rfl | (simp [errW_none, errW_some] <;> rfl) | (simp [*, errW_none, errW_some] <;> rfl), by repeat (first | (with_reducible first | exact HB.out | apply below_alloc | apply pw_below_drewN | apply below_drew1) | exact HB.out)⟩
    · rw [if_neg c4] at H
      have c4b0 : ((t116.length : Int) == 0) = false := beq_eq_false_iff_ne.mpr c4
      have c4b1 : ((t116.length : Int) != 0) = true := bne_iff_ne.mpr c4
      have c4b2 : ¬ (t116 = []) := fun h_ => c4 (by rw [h_]; rfl)
      obtain ⟨ji7, hji7⟩ : ∃ j_ : Int, (wrap64 ((t116.length : Int) - 1)) = j_ := ⟨_, rfl⟩
      replace H : (if 0 ≤ (ji7) then (if (ji7) ≤ (t116.length : Int) then ((paths_Join.f (t116.take ((ji7) : Int).toNat)).bind fun bt124 => (if (ji7) < (t116.length : Int) then (some (bt124.1, rdOf ByteArray.empty t116 (ji7), bt124.2)) else (none))) else (none)) else (none)) = some (r1, r2, r3) := by first | (rw [hji7] at H; exact H) | (simp only [hji7] at H ⊢; exact H)
      (try rw [hji7] at A2)
      have hji7w : (IntKind.i64.wrap ((t116.length : Int) - 1)) = ji7 := (i64_w _).trans hji7
      by_cases c8 : 0 ≤ (ji7)
      · rw [if_pos c8] at H
        have c8b0 := eq_true c8
        have c8b1 : decide (0 ≤ (ji7)) = true := decide_eq_true c8
        clear c8
        by_cases c9 : (ji7) ≤ (t116.length : Int)
        · rw [if_pos c9] at H
          have c9b0 := eq_true c9
          have c9b1 : decide ((ji7) ≤ (t116.length : Int)) = true := decide_eq_true c9
          clear c9
          obtain ⟨y120, hy120⟩ : ∃ y_ : List ByteArray, y_ = (t116.take ((ji7) : Int).toNat) := ⟨_, rfl⟩
          replace H : ((paths_Join.f y120).bind fun bt124 => (if (ji7) < (t116.length : Int) then (some (bt124.1, rdOf ByteArray.empty t116 (ji7), bt124.2)) else (none))) = some (r1, r2, r3) := by first | (rw [hy120]; with_reducible exact H) | (have H2_ := (Option.bind_some _ _).symm.trans H; rw [hy120]; with_reducible exact H2_) | (have H2_ := (Option.bind_some _ _).symm.trans H; with_reducible exact H2_) | with_reducible exact H | (rw [hy120]; exact H) | exact H
          have Ny120 := Aside0.mk hy120
          clear hy120
          replace H := Option.bind_eq_some_iff.mp H
          obtain ⟨⟨t124, t125⟩, A100, H⟩ := H
          replace H : (if (ji7) < (t116.length : Int) then (some (t124, rdOf ByteArray.empty t116 (ji7), t125)) else (none)) = some (r1, r2, r3) := H
          have A10 := Aside0.mk A100
          clear A100
          by_cases c11 : (ji7) < (t116.length : Int)
          · rw [if_pos c11] at H
            have c11b0 : decide ((ji7) < (t116.length : Int)) = true := decide_eq_true c11
            clear c11
            simp only [Option.some.injEq, Prod.mk.injEq] at H
            obtain ⟨rfl, rfl, rfl⟩ := H
            go_enter Tryd.func14, Tryd.ntmps14
            go_wp2_with (first | (go_at_call 9; (with_reducible refine (paths_Split.calls k a0 t116 t117 _ A2.out).mono ?_); rintro e w12 ⟨v118, rfl, ho0, hb⟩; have n0_ := Aside0.mk (Kd.R_lower ho0 (below_size (by repeat (first | (with_reducible first | exact HB.out | apply below_alloc | apply pw_below_drewN | apply below_drew1) | exact HB.out)))); have n1_ := Aside0.mk (below_step (by repeat (first | (with_reducible first | exact HB.out | apply below_alloc | apply pw_below_drewN | apply below_drew1) | exact HB.out)) hb); clear HB; have HO119 := n0_; have HB := n1_; clear n0_ n1_; (try clear hb); (try clear hb2); (try clear hk); (try clear hi); (try clear ho0); obtain ⟨Ao13, co13, eo13⟩ := Kd.R_slice HO119.out; subst eo13; have q14 : ((ji7) : Int) ≤ ((t116.length : Int) : Int) := of_decide_eq_true (by first | (with_reducible assumption) | assumption); obtain ⟨i014, hi014, _, hsz14, _⟩ := info_parts info9; have hroom14 : t116.length ≤ co13 := (Kd.R_reads' HO119.out).2.1; have hC14 : Kd.C Kd.string _ Ao13 t116.length t116 := (Kd.R_reads' HO119.out).2.2; have hcut14 := cut_to (P := Tryd.prog) 23 9 .i64 Tryd.underlying23 hi014 Ao13 t116.length co13 (ji7) (of_decide_eq_true (by first | (with_reducible assumption) | assumption)) q14 hroom14; have hr14 := Kd.C_take (m := ((ji7) : Int).toNat) hC14 (by omega); have hy14 : y120.length = ((ji7) : Int).toNat := (by rw [Ny120.out, List.length_take]; omega); rw [← Ny120.out] at hr14; rw [← hy14] at hcut14; have HR123 := Aside0.mk hr14; have HC123 := Aside0.mk (show y120.length ≤ co13 from by omega); clear hr14 hC14 hroom14 hi014 hsz14; have KY14 := Aside0.mk hy14; clear hy14; have KL14 := Aside0.mk (show ((ji7) : Int).toNat ≤ t116.length from by omega); replace q14 := eq_true q14) | (go_at_call 18; (with_reducible refine (paths_Join.calls _ _ y120 t124 t125 _ ?side1 ?side2 A10.out).mono ?_); (case side1 => repeat (first | exact (by repeat (first | (with_reducible exact HR123.out) | (with_reducible refine Kd.C_alloc ?_ _) | (with_reducible refine Kd.C_drewN ?_ _) | (with_reducible refine Kd.C_drew ?_) | exact HR123.out)) | (with_reducible refine Kd.C_alloc ?_ _) | (with_reducible refine Kd.C_drewN ?_ _) | (with_reducible refine Kd.C_drew ?_))); (case side2 => exact HC123.out); rintro e w15 ⟨rfl, hb⟩; have n0_ := Aside0.mk (Kd.R_below (by (with_reducible repeat (first | apply Kd.R_alloc | apply Kd.R_drewN | apply Kd.R_drew)); exact HO119.out) hb); have n1_ := Aside0.mk (Kd.C_below (by repeat (first | (with_reducible exact HR123.out) | (with_reducible refine Kd.C_alloc ?_ _) | (with_reducible refine Kd.C_drewN ?_ _) | (with_reducible refine Kd.C_drew ?_) | exact HR123.out)) hb); have n2_ := Aside0.mk (below_step (by repeat (first | (with_reducible first | exact HB.out | apply below_alloc | apply pw_below_drewN | apply below_drew1) | exact HB.out)) hb); clear HO119; clear HR123; clear HB; have HO119 := n0_; have HR123 := n1_; have HB := n2_; clear n0_ n1_ n2_; (try clear hb); (try clear hb2); (try clear hk); (try clear hi); have p126 : 0 ≤ ((ji7) : Int) := of_decide_eq_true (by first | (with_reducible assumption) | assumption); have q126 : (ji7) < (t116.length : Int) := of_decide_eq_true (by first | (with_reducible assumption) | assumption); obtain ⟨ad126, e126, hx126_0⟩ := Kd.at_string (Kd.R_reads' HO119.out).2.2 (ji7) p126 q126; cases e126; replace p126 := eq_true p126; replace q126 := eq_true q126))
            repeat (go_quiet (first | (go_at_call 9; (with_reducible refine (paths_Split.calls k a0 t116 t117 _ A2.out).mono ?_); rintro e w12 ⟨v118, rfl, ho0, hb⟩; have n0_ := Aside0.mk (Kd.R_lower ho0 (below_size (by repeat (first | (with_reducible first | exact HB.out | apply below_alloc | apply pw_below_drewN | apply below_drew1) | exact HB.out)))); have n1_ := Aside0.mk (below_step (by repeat (first | (with_reducible first | exact HB.out | apply below_alloc | apply pw_below_drewN | apply below_drew1) | exact HB.out)) hb); clear HB; have HO119 := n0_; have HB := n1_; clear n0_ n1_; (try clear hb); (try clear hb2); (try clear hk); (try clear hi); (try clear ho0); obtain ⟨Ao13, co13, eo13⟩ := Kd.R_slice HO119.out; subst eo13; have q14 : ((ji7) : Int) ≤ ((t116.length : Int) : Int) := of_decide_eq_true (by first | (with_reducible assumption) | assumption); obtain ⟨i014, hi014, _, hsz14, _⟩ := info_parts info9; have hroom14 : t116.length ≤ co13 := (Kd.R_reads' HO119.out).2.1; have hC14 : Kd.C Kd.string _ Ao13 t116.length t116 := (Kd.R_reads' HO119.out).2.2; have hcut14 := cut_to (P := Tryd.prog) 23 9 .i64 Tryd.underlying23 hi014 Ao13 t116.length co13 (ji7) (of_decide_eq_true (by first | (with_reducible assumption) | assumption)) q14 hroom14; have hr14 := Kd.C_take (m := ((ji7) : Int).toNat) hC14 (by omega); have hy14 : y120.length = ((ji7) : Int).toNat := (by rw [Ny120.out, List.length_take]; omega); rw [← Ny120.out] at hr14; rw [← hy14] at hcut14; have HR123 := Aside0.mk hr14; have HC123 := Aside0.mk (show y120.length ≤ co13 from by omega); clear hr14 hC14 hroom14 hi014 hsz14; have KY14 := Aside0.mk hy14; clear hy14; have KL14 := Aside0.mk (show ((ji7) : Int).toNat ≤ t116.length from by omega); replace q14 := eq_true q14) | (go_at_call 18; (with_reducible refine (paths_Join.calls _ _ y120 t124 t125 _ ?side1 ?side2 A10.out).mono ?_); (case side1 => repeat (first | exact (by repeat (first | (with_reducible exact HR123.out) | (with_reducible refine Kd.C_alloc ?_ _) | (with_reducible refine Kd.C_drewN ?_ _) | (with_reducible refine Kd.C_drew ?_) | exact HR123.out)) | (with_reducible refine Kd.C_alloc ?_ _) | (with_reducible refine Kd.C_drewN ?_ _) | (with_reducible refine Kd.C_drew ?_))); (case side2 => exact HC123.out); rintro e w15 ⟨rfl, hb⟩; have n0_ := Aside0.mk (Kd.R_below (by (with_reducible repeat (first | apply Kd.R_alloc | apply Kd.R_drewN | apply Kd.R_drew)); exact HO119.out) hb); have n1_ := Aside0.mk (Kd.C_below (by repeat (first | (with_reducible exact HR123.out) | (with_reducible refine Kd.C_alloc ?_ _) | (with_reducible refine Kd.C_drewN ?_ _) | (with_reducible refine Kd.C_drew ?_) | exact HR123.out)) hb); have n2_ := Aside0.mk (below_step (by repeat (first | (with_reducible first | exact HB.out | apply below_alloc | apply pw_below_drewN | apply below_drew1) | exact HB.out)) hb); clear HO119; clear HR123; clear HB; have HO119 := n0_; have HR123 := n1_; have HB := n2_; clear n0_ n1_ n2_; (try clear hb); (try clear hb2); (try clear hk); (try clear hi); have p126 : 0 ≤ ((ji7) : Int) := of_decide_eq_true (by first | (with_reducible assumption) | assumption); have q126 : (ji7) < (t116.length : Int) := of_decide_eq_true (by first | (with_reducible assumption) | assumption); obtain ⟨ad126, e126, hx126_0⟩ := Kd.at_string (Kd.R_reads' HO119.out).2.2 (ji7) p126 q126; cases e126; replace p126 := eq_true p126; replace q126 := eq_true q126)); try go_wp2_with (first | (go_at_call 9; (with_reducible refine (paths_Split.calls k a0 t116 t117 _ A2.out).mono ?_); rintro e w12 ⟨v118, rfl, ho0, hb⟩; have n0_ := Aside0.mk (Kd.R_lower ho0 (below_size (by repeat (first | (with_reducible first | exact HB.out | apply below_alloc | apply pw_below_drewN | apply below_drew1) | exact HB.out)))); have n1_ := Aside0.mk (below_step (by repeat (first | (with_reducible first | exact HB.out | apply below_alloc | apply pw_below_drewN | apply below_drew1) | exact HB.out)) hb); clear HB; have HO119 := n0_; have HB := n1_; clear n0_ n1_; (try clear hb); (try clear hb2); (try clear hk); (try clear hi); (try clear ho0); obtain ⟨Ao13, co13, eo13⟩ := Kd.R_slice HO119.out; subst eo13; have q14 : ((ji7) : Int) ≤ ((t116.length : Int) : Int) := of_decide_eq_true (by first | (with_reducible assumption) | assumption); obtain ⟨i014, hi014, _, hsz14, _⟩ := info_parts info9; have hroom14 : t116.length ≤ co13 := (Kd.R_reads' HO119.out).2.1; have hC14 : Kd.C Kd.string _ Ao13 t116.length t116 := (Kd.R_reads' HO119.out).2.2; have hcut14 := cut_to (P := Tryd.prog) 23 9 .i64 Tryd.underlying23 hi014 Ao13 t116.length co13 (ji7) (of_decide_eq_true (by first | (with_reducible assumption) | assumption)) q14 hroom14; have hr14 := Kd.C_take (m := ((ji7) : Int).toNat) hC14 (by omega); have hy14 : y120.length = ((ji7) : Int).toNat := (by rw [Ny120.out, List.length_take]; omega); rw [← Ny120.out] at hr14; rw [← hy14] at hcut14; have HR123 := Aside0.mk hr14; have HC123 := Aside0.mk (show y120.length ≤ co13 from by omega); clear hr14 hC14 hroom14 hi014 hsz14; have KY14 := Aside0.mk hy14; clear hy14; have KL14 := Aside0.mk (show ((ji7) : Int).toNat ≤ t116.length from by omega); replace q14 := eq_true q14) | (go_at_call 18; (with_reducible refine (paths_Join.calls _ _ y120 t124 t125 _ ?side1 ?side2 A10.out).mono ?_); (case side1 => repeat (first | exact (by repeat (first | (with_reducible exact HR123.out) | (with_reducible refine Kd.C_alloc ?_ _) | (with_reducible refine Kd.C_drewN ?_ _) | (with_reducible refine Kd.C_drew ?_) | exact HR123.out)) | (with_reducible refine Kd.C_alloc ?_ _) | (with_reducible refine Kd.C_drewN ?_ _) | (with_reducible refine Kd.C_drew ?_))); (case side2 => exact HC123.out); rintro e w15 ⟨rfl, hb⟩; have n0_ := Aside0.mk (Kd.R_below (by (with_reducible repeat (first | apply Kd.R_alloc | apply Kd.R_drewN | apply Kd.R_drew)); exact HO119.out) hb); have n1_ := Aside0.mk (Kd.C_below (by repeat (first | (with_reducible exact HR123.out) | (with_reducible refine Kd.C_alloc ?_ _) | (with_reducible refine Kd.C_drewN ?_ _) | (with_reducible refine Kd.C_drew ?_) | exact HR123.out)) hb); have n2_ := Aside0.mk (below_step (by repeat (first | (with_reducible first | exact HB.out | apply below_alloc | apply pw_below_drewN | apply below_drew1) | exact HB.out)) hb); clear HO119; clear HR123; clear HB; have HO119 := n0_; have HR123 := n1_; have HB := n2_; clear n0_ n1_ n2_; (try clear hb); (try clear hb2); (try clear hk); (try clear hi); have p126 : 0 ≤ ((ji7) : Int) := of_decide_eq_true (by first | (with_reducible assumption) | assumption); have q126 : (ji7) < (t116.length : Int) := of_decide_eq_true (by first | (with_reducible assumption) | assumption); obtain ⟨ad126, e126, hx126_0⟩ := Kd.at_string (Kd.R_reads' HO119.out).2.2 (ji7) p126 q126; cases e126; replace p126 := eq_true p126; replace q126 := eq_true q126)))
            go_ret3
            exact ⟨by first | rfl | (simp [errW_none, errW_some] <;> rfl) | (simp only [← hji7]; first | rfl | (simp [errW_none, errW_some] <;> rfl)) | (simp [*, errW_none, errW_some] <;> rfl), by repeat (first | (with_reducible first | exact HB.out | apply below_alloc | apply pw_below_drewN | apply below_drew1) | exact HB.out)⟩
          · rw [if_neg c11] at H
            exact absurd H (by simp)
        · rw [if_neg c9] at H
          exact absurd H (by simp)
      · rw [if_neg c8] at H
        exact absurd H (by simp)
  · rw [if_neg c3] at H
    have c3b0 : (t117 == 0) = false := beq_eq_false_iff_ne.mpr c3
    have c3b1 : (t117 != 0) = true := bne_iff_ne.mpr c3
    simp only [Option.some.injEq, Prod.mk.injEq] at H
    obtain ⟨rfl, rfl, rfl⟩ := H
    go_enter Tryd.func14, Tryd.ntmps14
    go_wp2_with (first | (go_at_call 9; (with_reducible refine (paths_Split.calls k a0 t116 t117 _ A2.out).mono ?_); rintro e w16 ⟨v118, rfl, ho0, hb⟩; have n0_ := Aside0.mk (Kd.R_lower ho0 (below_size (by repeat (first | (with_reducible first | exact HB.out | apply below_alloc | apply pw_below_drewN | apply below_drew1) | exact HB.out)))); have n1_ := Aside0.mk (below_step (by repeat (first | (with_reducible first | exact HB.out | apply below_alloc | apply pw_below_drewN | apply below_drew1) | exact HB.out)) hb); clear HB; have HO119 := n0_; have HB := n1_; clear n0_ n1_; (try clear hb); (try clear hb2); (try clear hk); (try clear hi); (try clear ho0)))
    repeat (go_quiet (first | (go_at_call 9; (with_reducible refine (paths_Split.calls k a0 t116 t117 _ A2.out).mono ?_); rintro e w16 ⟨v118, rfl, ho0, hb⟩; have n0_ := Aside0.mk (Kd.R_lower ho0 (below_size (by repeat (first | (with_reducible first | exact HB.out | apply below_alloc | apply pw_below_drewN | apply below_drew1) | exact HB.out)))); have n1_ := Aside0.mk (below_step (by repeat (first | (with_reducible first | exact HB.out | apply below_alloc | apply pw_below_drewN | apply below_drew1) | exact HB.out)) hb); clear HB; have HO119 := n0_; have HB := n1_; clear n0_ n1_; (try clear hb); (try clear hb2); (try clear hk); (try clear hi); (try clear ho0))); try go_wp2_with (first | (go_at_call 9; (with_reducible refine (paths_Split.calls k a0 t116 t117 _ A2.out).mono ?_); rintro e w16 ⟨v118, rfl, ho0, hb⟩; have n0_ := Aside0.mk (Kd.R_lower ho0 (below_size (by repeat (first | (with_reducible first | exact HB.out | apply below_alloc | apply pw_below_drewN | apply below_drew1) | exact HB.out)))); have n1_ := Aside0.mk (below_step (by repeat (first | (with_reducible first | exact HB.out | apply below_alloc | apply pw_below_drewN | apply below_drew1) | exact HB.out)) hb); clear HB; have HO119 := n0_; have HB := n1_; clear n0_ n1_; (try clear hb); (try clear hb2); (try clear hk); (try clear hi); (try clear ho0))))
    go_ret3
    exact ⟨by first | rfl | (simp [errW_none, errW_some] <;> rfl) | (simp [*, errW_none, errW_some] <;> rfl), by repeat (first | (with_reducible first | exact HB.out | apply below_alloc | apply pw_below_drewN | apply below_drew1) | exact HB.out)⟩

end Go.Proofs.YtahjalabhlakaacDoor.GPth
