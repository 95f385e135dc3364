/- The plain law behind CrownMarks: the marks of a disk without files, bit by bit. Conditions: none. -/
import Derived.Test.YtahjalabhlakaabDoorPlain
import Derived.Lib.Explode
import Derived.Test.YtahjalabhlakaabDoorGCrMx8
namespace Go.Proofs.YtahjalabhlakaabDoor.Pure
open Go.RowKit Go.Proofs.YtahjalabhlakaabDoor.GCrM Go.Proofs.YtahjalabhlakaabDoorW.PrintWords Go.Proofs.YtahjalabhlakaabDoorW.PrintLast Go.Proofs.YtahjalabhlakaabDoorW.PrintMore Go.Proofs.YtahjalabhlakaabDoor.Plain
theorem lives_ev : Ev (fun k => wainwrightlaw10_lives.f k) true := Ev.of (k := 40) wainwrightlaw10_lives.mono (by kernel_rfl)
def rightB (f b c : Int) : Bool := decide (64 ≤ b) && decide (b ≤ 400) && (((f == 1 || f == 2) && c == 0) || ((f == 3 || f == 4) && decide (0 ≤ c) && decide (c ≤ 32)))
theorem right_eq (k : Nat) (f b c : Int) : crown_Right.f (k + 1 + 1) f b c = some (rightB f b c) := by
  simp only [crown_Right.f, crown_Right.j0, crown_Right.j1, rightB]
  by_cases h1 : b < 64
  · rw [if_pos h1, if_pos trivial, decide_eq_false (by omega : ¬ 64 ≤ b)]; rfl
  · rw [if_neg h1, decide_eq_true (by omega : 64 ≤ b)]
    by_cases h2 : b > 400
    · rw [decide_eq_true h2, if_pos rfl, decide_eq_false (by omega : ¬ b ≤ 400)]; rfl
    · rw [decide_eq_false h2, if_neg (by decide), decide_eq_true (by omega : b ≤ 400)]
      by_cases h3 : f = 1
      · subst h3; simp
      · rw [if_neg h3]
        by_cases h4 : f = 2
        · subst h4; simp
        · by_cases h5 : f = 3
          · subst h5
            by_cases h6 : 0 ≤ c <;> simp [h6]
          · by_cases h6 : f = 4
            · subst h6
              by_cases h7 : 0 ≤ c <;> simp [h7]
            · simp [h3, h4, h5, h6]
theorem right_ev (f b c : Int) : Ev (fun k => crown_Right.f k f b c) (rightB f b c) := ⟨2, fun k hk => by obtain ⟨j, rfl⟩ : ∃ j, k = j + 1 + 1 := ⟨k - 2, by omega⟩; exact right_eq j f b c⟩
theorem right_bounds {f b c : Int} (h : rightB f b c = true) : 64 ≤ b ∧ b ≤ 400 := by
  unfold rightB at h
  simp only [Bool.and_eq_true, Bool.or_eq_true, decide_eq_true_eq, beq_iff_eq] at h
  omega
/-- One byte b and one of its bits, checked one by one. -/
def facts (b k : Nat) : Bool :=
  decide ((Go.bits .and .u8 (shr .u8 (b : Int) (k : Int)) 1 == 1) = (b / 2 ^ k % 2 == 1)) &&
  (b / 2 ^ k % 2 == 1 || (decide (Go.bits .or .u8 (b : Int) (shl .u8 1 (k : Int)) = ((b + 2 ^ k : Nat) : Int)) && decide (Go.bits .xor .u8 (b : Int) (2 ^ k % 256) = ((b + 2 ^ k : Nat) : Int)) &&
    decide (b + 2 ^ k < 256) && decide (Lib.onesCount (b + 2 ^ k) = Lib.onesCount b + 1) && (List.range 8).all (fun q => decide ((b + 2 ^ k) / 2 ^ q % 2 = if q = k then 1 else b / 2 ^ q % 2))))
theorem facts_all : (List.range 256).all (fun b => (List.range 8).all (fun k => facts b k)) = true := by kernel_rfl
theorem facts_at {b k : Nat} (hb : b < 256) (hk : k < 8) : facts b k = true :=
  List.all_eq_true.1 (List.all_eq_true.1 facts_all b (List.mem_range.2 hb)) k (List.mem_range.2 hk)
theorem and_at {b k : Nat} (hb : b < 256) (hk : k < 8) : (Go.bits .and .u8 (shr .u8 (b : Int) (k : Int)) 1 == 1) = (b / 2 ^ k % 2 == 1) := by
  have h := facts_at hb hk
  unfold facts at h
  rw [Bool.and_eq_true] at h
  exact of_decide_eq_true h.1
theorem new_at {b k : Nat} (hb : b < 256) (hk : k < 8) (h0 : b / 2 ^ k % 2 = 0) : Go.bits .or .u8 (b : Int) (shl .u8 1 (k : Int)) = ((b + 2 ^ k : Nat) : Int) ∧ Go.bits .xor .u8 (b : Int) (2 ^ k % 256) = ((b + 2 ^ k : Nat) : Int) ∧
    b + 2 ^ k < 256 ∧ Lib.onesCount (b + 2 ^ k) = Lib.onesCount b + 1 ∧ ∀ q, q < 8 → (b + 2 ^ k) / 2 ^ q % 2 = if q = k then 1 else b / 2 ^ q % 2 := by
  have h := facts_at hb hk
  unfold facts at h
  rw [h0] at h
  simp only [Bool.and_eq_true, Bool.or_eq_true, decide_eq_true_eq, beq_iff_eq] at h
  obtain ⟨_, h | ⟨⟨⟨⟨h1, h2⟩, h3⟩, h4⟩, h5⟩⟩ := h
  · cases h
  · exact ⟨h1, h2, h3, h4, fun q hq => of_decide_eq_true (List.all_eq_true.1 h5 q (List.mem_range.2 hq))⟩
def cnd (n : Int) (p : Nat) : Bool := decide (p < 51) || decide (n ≤ (p : Int))
def stN (c : Nat → Bool) : Nat → List Nat
  | 0 => List.replicate 128 0
  | i + 1 => if c i = true then (stN c i).set (i / 8) ((stN c i).getD (i / 8) 0 + 2 ^ (i % 8)) else stN c i
theorem stN_len (c : Nat → Bool) : ∀ i, (stN c i).length = 128
  | 0 => by simp [stN]
  | i + 1 => by
    unfold stN
    split
    · rw [List.length_set]; exact stN_len c i
    · exact stN_len c i
theorem getD_set (L : List Nat) (j q v : Nat) (hj : j < L.length) : (L.set j v).getD q 0 = if q = j then v else L.getD q 0 := by
  rw [List.getD_eq_getElem?_getD, List.getD_eq_getElem?_getD, List.getElem?_set]
  by_cases h : j = q
  · subst h; simp [hj]
  · rw [if_neg h, if_neg (fun e => h e.symm)]
theorem stN_inv (c : Nat → Bool) : ∀ i, i ≤ 1024 → (∀ j, (stN c i).getD j 0 < 256) ∧ (∀ p, p < 1024 → (stN c i).getD (p / 8) 0 / 2 ^ (p % 8) % 2 = if p < i ∧ c p = true then 1 else 0)
  | 0, _ => by
    have h0 : ∀ j, (stN c 0).getD j 0 = 0 := fun j => by
      unfold stN
      rw [List.getD_eq_getElem?_getD, List.getElem?_replicate]
      split <;> rfl
    exact ⟨fun j => by rw [h0]; omega, fun p _ => by rw [h0]; simp⟩
  | i + 1, hi => by
    obtain ⟨h1, h2⟩ := stN_inv c i (by omega)
    unfold stN
    by_cases hc : c i = true
    · rw [if_pos hc]
      have hb := h2 i (by omega)
      rw [if_neg (by omega)] at hb
      obtain ⟨_, _, h3, _, h4⟩ := new_at (h1 (i / 8)) (Nat.mod_lt i (by decide : 0 < 8)) hb
      have hl := stN_len c i
      refine ⟨fun j => ?_, fun p hp => ?_⟩
      · rw [getD_set _ _ _ _ (by omega)]
        split
        · exact h3
        · exact h1 j
      · rw [getD_set _ _ _ _ (by omega)]
        by_cases hq : p / 8 = i / 8
        · rw [if_pos hq, h4 _ (Nat.mod_lt p (by decide : 0 < 8))]
          by_cases hr : p % 8 = i % 8
          · have : p = i := by omega
            subst this
            rw [if_pos rfl, if_pos ⟨by omega, hc⟩]
          · rw [if_neg hr, ← hq, h2 p hp]
            have : p ≠ i := fun e => hr (by rw [e])
            by_cases hp' : p < i ∧ c p = true
            · rw [if_pos hp', if_pos ⟨by omega, hp'.2⟩]
            · rw [if_neg hp', if_neg (fun e => hp' ⟨by omega, e.2⟩)]
        · rw [if_neg hq, h2 p hp]
          have : p ≠ i := fun e => hq (by rw [e])
          by_cases hp' : p < i ∧ c p = true
          · rw [if_pos hp', if_pos ⟨by omega, hp'.2⟩]
          · rw [if_neg hp', if_neg (fun e => hp' ⟨by omega, e.2⟩)]
    · rw [if_neg hc]
      refine ⟨h1, fun p hp => ?_⟩
      rw [h2 p hp]
      by_cases hp' : p < i ∧ c p = true
      · rw [if_pos hp', if_pos ⟨by omega, hp'.2⟩]
      · rw [if_neg hp', if_neg]
        intro e
        have : p ≠ i := fun e' => hc (e' ▸ e.2)
        exact hp' ⟨by omega, e.2⟩
def tot (L : List Nat) : Nat := (L.map Lib.onesCount).sum
theorem tot_set : ∀ (L : List Nat) (j v : Nat), j < L.length → tot (L.set j v) + Lib.onesCount (L.getD j 0) = tot L + Lib.onesCount v
  | [], j, v, h => by simp at h
  | x :: L, 0, v, h => by simp [tot]; omega
  | x :: L, j + 1, v, h => by
    have ih := tot_set L j v (by simpa using h)
    simp only [tot, List.set_cons_succ, List.map_cons, List.sum_cons, List.getD_cons_succ] at ih ⊢
    omega
def cnt (c : Nat → Bool) : Nat → Nat
  | 0 => 0
  | i + 1 => cnt c i + if c i = true then 1 else 0
theorem tot_stN (c : Nat → Bool) : ∀ i, i ≤ 1024 → tot (stN c i) = cnt c i
  | 0, _ => by kernel_rfl
  | i + 1, hi => by
    have ih := tot_stN c i (by omega)
    unfold stN cnt
    by_cases hc : c i = true
    · rw [if_pos hc, if_pos hc]
      obtain ⟨h1, h2⟩ := stN_inv c i (by omega)
      have hb := h2 i (by omega)
      rw [if_neg (by omega)] at hb
      obtain ⟨_, _, _, h4, _⟩ := new_at (h1 (i / 8)) (Nat.mod_lt i (by decide : 0 < 8)) hb
      have := tot_set (stN c i) (i / 8) ((stN c i).getD (i / 8) 0 + 2 ^ (i % 8)) (by rw [stN_len]; omega)
      omega
    · rw [if_neg hc, if_neg hc, ih]; rfl
theorem cnt_eq (n : Int) (h1 : 51 ≤ n) (h2 : n ≤ 1024) : ∀ i, cnt (cnd n) i = min i 51 + (i - n.toNat)
  | 0 => by simp [cnt]
  | i + 1 => by
    unfold cnt
    rw [cnt_eq n h1 h2 i]
    unfold cnd
    by_cases ha : i < 51
    · rw [decide_eq_true ha, Bool.true_or, if_pos rfl]; omega
    · rw [decide_eq_false ha, Bool.false_or]
      by_cases hb : n ≤ (i : Int)
      · rw [decide_eq_true hb, if_pos rfl]; omega
      · rw [decide_eq_false hb, if_neg (by decide)]; omega
def toI (L : List Nat) : List Int := L.map (fun (x : Nat) => (x : Int))
theorem toI_rd (L : List Nat) (j : Nat) : rd (toI L) (j : Int) = ((L.getD j 0 : Nat) : Int) := by
  unfold rd toI
  rw [Int.toNat_natCast, List.getD_eq_getElem?_getD, List.getD_eq_getElem?_getD, List.getElem?_map]
  cases L[j]? <;> rfl
theorem toI_set (L : List Nat) (j v : Nat) : (toI L).set j (v : Int) = toI (L.set j v) := by
  unfold toI
  rw [List.map_set]
theorem toI_len (L : List Nat) : (toI L).length = L.length := by simp [toI]
theorem bytes_back (L : List Nat) (h : ∀ j, L.getD j 0 < 256) : bytesOf (strOfNums (toI L)) = toI L := by
  unfold bytesOf toI
  rw [strOfNums_data, List.map_map, List.map_map]
  apply List.map_congr_left
  intro x hx
  obtain ⟨j, hj, rfl⟩ := List.mem_iff_getElem.1 hx
  have := h j
  rw [List.getD_eq_getElem?_getD, List.getElem?_eq_getElem hj] at this
  have h2 : L[j] < 256 := this
  show (((UInt8.ofNat ((L[j] : Nat) : Int).toNat).toNat : Nat) : Int) = ((L[j] : Nat) : Int)
  rw [Int.toNat_natCast, UInt8.toNat_ofNat']
  omega
theorem str_size (L : List Nat) : (strOfNums (toI L)).size = L.length := by rw [strOfNums_size, toI_len]
theorem str_bt (L : List Nat) (h : ∀ j, L.getD j 0 < 256) (j : Nat) : bt (strOfNums (toI L)) (j : Int) = ((L.getD j 0 : Nat) : Int) := by
  rw [← rd_bytesOf, bytes_back L h, toI_rd]
theorem tdiv8 (i : Nat) : Int.tdiv (i : Int) 8 = ((i / 8 : Nat) : Int) := by
  rw [Int.tdiv_eq_ediv_of_nonneg (by omega)]; omega
theorem tmod8 (i : Nat) : Int.tmod (i : Int) 8 = ((i % 8 : Nat) : Int) := by
  rw [Int.tmod_eq_emod_of_nonneg (by omega)]; omega
theorem crown_loop (n : Int) (F : List Nat) (hF : stN (cnd n) 1024 = F) : ∀ m i : Nat, i + m = 1024 → Ev (fun k => crown_Marks.l0 k n (toI (stN (cnd n) i)) (i : Int)) (strOfNums (toI F))
  | 0, i, h => by
    have : i = 1024 := by omega
    subst this
    rw [hF]
    exact Ev.step (f := fun _ => some (strOfNums (toI F))) (fun k => by simp only [crown_Marks.l0]; rw [if_neg (by omega)]) (Ev.now _)
  | m + 1, i, h => by
    have ih := crown_loop n F hF m (i + 1) (by omega)
    have hi : i < 1024 := by omega
    have hl : (toI (stN (cnd n) i)).length = 128 := by rw [toI_len, stN_len]
    have hw : wrap64 ((i : Int) + 1) = ((i + 1 : Nat) : Int) := wrap_in _ (by omega) (by omega)
    have hd : wrap64 (Int.tdiv (i : Int) 8) = ((i / 8 : Nat) : Int) := by rw [tdiv8]; exact wrap_in _ (by omega) (by omega)
    have hset : (toI (stN (cnd n) i)).set (((i / 8 : Nat) : Int)).toNat (Go.bits .or .u8 (rd (toI (stN (cnd n) i)) ((i / 8 : Nat) : Int)) (shl .u8 1 ((i % 8 : Nat) : Int))) = toI ((stN (cnd n) i).set (i / 8) ((stN (cnd n) i).getD (i / 8) 0 + 2 ^ (i % 8))) := by
      obtain ⟨h1, h2⟩ := stN_inv (cnd n) i (Nat.le_of_lt hi)
      have hb := h2 i hi
      rw [if_neg (fun e => Nat.lt_irrefl _ e.1)] at hb
      have h3 := (new_at (h1 (i / 8)) (Nat.mod_lt i (by decide : 0 < 8)) hb).1
      rw [toI_rd, h3, Int.toNat_natCast, toI_set]
    refine Ev.step (f := fun k => crown_Marks.l0 k n (toI (stN (cnd n) (i + 1))) ((i + 1 : Nat) : Int)) (fun k => ?_) ih
    simp only [crown_Marks.l0, hw, hd, tmod8, hl, hset]
    rw [if_pos (by omega), if_pos (show (0 : Int) ≤ ((i / 8 : Nat) : Int) by omega), if_pos (show ((i / 8 : Nat) : Int) < ((128 : Nat) : Int) by omega), if_pos (show (0 : Int) ≤ ((i % 8 : Nat) : Int) by omega)]
    conv => rhs; unfold stN
    by_cases ha : i < 51
    · rw [if_pos (by omega), if_pos (by unfold cnd; rw [decide_eq_true ha]; rfl)]
    · rw [if_neg (by omega)]
      by_cases hb' : n ≤ (i : Int)
      · rw [if_pos (by unfold mx; split <;> omega), if_pos (by unfold cnd; rw [decide_eq_true hb', Bool.or_true])]
      · rw [if_neg (by unfold mx; split <;> omega), if_neg (by unfold cnd; rw [decide_eq_false hb', decide_eq_false ha]; decide)]
theorem is_loop (i : Nat) : ∀ r b q : Nat, q + r = i % 8 → b < 256 → Ev (fun k => wainwrightref03_Is.l0 k (i : Int) (b : Int) (q : Int)) (b / 2 ^ r % 2 == 1)
  | 0, b, q, h, hb => by
    refine Ev.step (f := fun _ => some (b / 2 ^ 0 % 2 == 1)) (fun k => ?_) (Ev.now _)
    simp only [wainwrightref03_Is.l0, tmod8]
    rw [if_neg (by omega), Int.tmod_eq_emod_of_nonneg (by omega)]
    congr 1
    rw [Bool.eq_iff_iff, beq_iff_eq, beq_iff_eq]
    omega
  | r + 1, b, q, h, hb => by
    have ih := is_loop i r (b / 2) (q + 1) (by omega) (by omega)
    rw [Nat.div_div_eq_div_mul, ← Nat.pow_succ'] at ih
    refine Ev.step (f := fun k => wainwrightref03_Is.l0 k (i : Int) ((b / 2 : Nat) : Int) ((q + 1 : Nat) : Int)) (fun k => ?_) ih
    simp only [wainwrightref03_Is.l0, tmod8]
    rw [if_pos (by omega), Int.tdiv_eq_ediv_of_nonneg (by omega), wrap_in _ (by omega) (by omega), wrap_in _ (by omega) (by omega)]
    rfl
theorem set_ev (L : List Nat) (hl : L.length = 128) (h : ∀ j, L.getD j 0 < 256) (i : Nat) (hi : i < 1024) (h0 : L.getD (i / 8) 0 / 2 ^ (i % 8) % 2 = 0) :
    Ev (fun k => wainwrightref03_Set.f k (strOfNums (toI L)) (i : Int) true) (strOfNums (toI (L.set (i / 8) (L.getD (i / 8) 0 + 2 ^ (i % 8))))) := by
  have hs : (strOfNums (toI L)).size = 128 := by rw [str_size, hl]
  obtain ⟨_, h3, _⟩ := new_at (h (i / 8)) (Nat.mod_lt i (by decide : 0 < 8)) h0
  unfold wainwrightref03_Set.f
  simp only [hs]
  simp only [if_pos (show 128 ≤ 140737488355328 by decide), if_neg (show ¬ (i : Int) < 0 by omega), if_neg (show ¬ (i : Int) ≥ 8 * ((128 : Nat) : Int) by omega)]
  have his : Ev (fun k => wainwrightref03_Is.f k (strOfNums (toI L)) (i : Int)) false := by
    unfold wainwrightref03_Is.f
    simp only [hs, if_neg (show ¬ (i : Int) < 0 by omega), wrap_in (8 * ((128 : Nat) : Int)) (by omega) (by omega), decide_eq_false (show ¬ (i : Int) ≥ 8 * ((128 : Nat) : Int) by omega)]
    have hd : wrap64 (Int.tdiv (i : Int) 8) = ((i / 8 : Nat) : Int) := by rw [tdiv8]; exact wrap_in _ (by omega) (by omega)
    refine Ev.step (f := fun k => wainwrightref03_Is.l0 k (i : Int) ((L.getD (i / 8) 0 : Nat) : Int) ((0 : Nat) : Int)) (fun k => ?_) ?_
    · simp only [wainwrightref03_Is.j0, hd, hs]
      have hlt := h (i / 8)
      rw [if_neg (by decide), if_pos (by omega), if_pos (by omega), str_bt L h, wrap_in _ (by omega) (by omega)]
      rfl
    · have := is_loop i (i % 8) (L.getD (i / 8) 0) 0 (by omega) (h _)
      rw [h0] at this
      exact this
  refine Ev.bind his ?_
  simp only [Bool.false_eq_true, if_false]
  have e1 : ((i : Int) / 8) = ((i / 8 : Nat) : Int) := by omega
  have e2 : ((i : Int) % 8) = ((i % 8 : Nat) : Int) := by omega
  rw [e1, e2, bytes_back L h, str_bt L h, Int.toNat_natCast, Int.toNat_natCast, h3, toI_set]
  exact Ev.now _
theorem ref_loop (n : Int) (F : List Nat) (hF : stN (cnd n) 1024 = F) : ∀ m i : Nat, i + m = 1024 → Ev (fun k => wainwrightref10_Marks.l0 k n (strOfNums (toI (stN (cnd n) i))) (i : Int)) (strOfNums (toI F))
  | 0, i, h => by
    have : i = 1024 := by omega
    subst this
    rw [hF]
    exact Ev.step (f := fun _ => some (strOfNums (toI F))) (fun k => by simp only [wainwrightref10_Marks.l0]; rw [if_neg (by omega)]) (Ev.now _)
  | m + 1, i, h => by
    have ih := ref_loop n F hF m (i + 1) (by omega)
    obtain ⟨h1, h2⟩ := stN_inv (cnd n) i (by omega)
    have hb := h2 i (by omega)
    rw [if_neg (by omega)] at hb
    have hset := set_ev (stN (cnd n) i) (stN_len _ _) h1 i (by omega) hb
    have hw : wrap64 ((i : Int) + 1) = ((i + 1 : Nat) : Int) := wrap_in _ (by omega) (by omega)
    have est : cnd n i = true → stN (cnd n) (i + 1) = (stN (cnd n) i).set (i / 8) ((stN (cnd n) i).getD (i / 8) 0 + 2 ^ (i % 8)) := fun hc => by
      conv => lhs; unfold stN
      rw [if_pos hc]
    have esn : ¬ cnd n i = true → stN (cnd n) (i + 1) = stN (cnd n) i := fun hc => by
      conv => lhs; unfold stN
      rw [if_neg hc]
    by_cases ha : i < 51
    · have hc : cnd n i = true := by unfold cnd; rw [decide_eq_true ha]; rfl
      rw [← est hc] at hset
      refine Ev.step (f := fun k => (wainwrightref03_Set.f k (strOfNums (toI (stN (cnd n) i))) (i : Int) true).bind fun t => wainwrightref10_Marks.l0 k n t ((i + 1 : Nat) : Int)) (fun k => ?_) (Ev.bind hset ih)
      simp only [wainwrightref10_Marks.l0, hw]
      rw [if_pos (by omega), if_pos (by omega)]
    · by_cases hb' : n ≤ (i : Int)
      · have hc : cnd n i = true := by unfold cnd; rw [decide_eq_true hb', Bool.or_true]
        rw [← est hc] at hset
        refine Ev.step (f := fun k => (wainwrightref03_Set.f k (strOfNums (toI (stN (cnd n) i))) (i : Int) true).bind fun t => wainwrightref10_Marks.l0 k n t ((i + 1 : Nat) : Int)) (fun k => ?_) (Ev.bind hset ih)
        simp only [wainwrightref10_Marks.l0, hw]
        rw [if_pos (by omega), if_neg (by omega), if_pos (by omega)]
      · have hc : ¬ cnd n i = true := by unfold cnd; rw [decide_eq_false hb', decide_eq_false ha]; decide
        rw [esn hc] at ih
        refine Ev.step (f := fun k => wainwrightref10_Marks.l0 k n (strOfNums (toI (stN (cnd n) i))) ((i + 1 : Nat) : Int)) (fun k => ?_) ih
        simp only [wainwrightref10_Marks.l0, hw]
        rw [if_pos (by omega), if_neg (by omega), if_neg (by omega)]
def marksOf (n : Int) : ByteArray := strOfNums (toI (stN (cnd n) 1024))
theorem marks_ev (n : Int) : Ev (fun k => crown_Marks.f k n) (marksOf n) := by
  unfold crown_Marks.f
  simp only [if_pos (show 128 ≤ 281474976710656 by decide)]
  exact crown_loop n _ rfl 1024 0 (by omega)
theorem rmarks_ev (n : Int) : Ev (fun k => wainwrightref10_Marks.f k n) (marksOf n) := by
  unfold wainwrightref10_Marks.f
  have e0 : wainwrightref02_Whole.f (⟨#[]⟩ : ByteArray) = some (strOfNums (toI (List.replicate 128 0))) := by kernel_rfl
  have e : wainwrightref02_Whole.f (⟨#[]⟩ : ByteArray) = some (strOfNums (toI (stN (cnd n) 0))) := e0
  simp only [e, Option.bind_some]
  exact ref_loop n _ rfl 1024 0 (by omega)
theorem marks_size (n : Int) : (marksOf n).size = 128 := by unfold marksOf; rw [str_size, stN_len]
theorem is_eq (n b : Int) : marks_Is.f (marksOf n) b = some (if 0 ≤ b ∧ b < 1024 then cnd n b.toNat else true) := by
  unfold marks_Is.f marks_there.f
  have hs := marks_size n
  rw [hs, wrap_in (8 * ((128 : Nat) : Int)) (by omega) (by omega)]
  by_cases h1 : b ≥ 0
  · rw [if_pos h1]
    simp only [Option.bind_some]
    by_cases h2 : b < 1024
    · obtain ⟨i, rfl⟩ : ∃ i : Nat, b = (i : Int) := ⟨b.toNat, by omega⟩
      obtain ⟨h3, h4⟩ := stN_inv (cnd n) 1024 (Nat.le_refl _)
      have hb := h4 i (by omega)
      have hd : wrap64 (Int.tdiv (i : Int) 8) = ((i / 8 : Nat) : Int) := by rw [tdiv8]; exact wrap_in _ (by omega) (by omega)
      have hbt : bt (marksOf n) ((i / 8 : Nat) : Int) = (((stN (cnd n) 1024).getD (i / 8) 0 : Nat) : Int) := str_bt _ h3 _
      rw [decide_eq_true (by omega), if_pos rfl, hd, tmod8, if_pos (by omega), if_pos (by omega), if_pos (by omega), hbt, and_at (h3 _) (Nat.mod_lt i (by decide : 0 < 8)), hb, if_pos (show 0 ≤ (i : Int) ∧ (i : Int) < 1024 from ⟨by omega, h2⟩), Int.toNat_natCast]
      congr 1
      by_cases hc : cnd n i = true
      · rw [if_pos ⟨by omega, hc⟩, hc]; rfl
      · rw [if_neg (fun e => hc e.2), Bool.eq_false_iff.2 hc]; rfl
    · rw [decide_eq_false (by omega), if_neg (by decide), if_neg (by omega)]
  · rw [if_neg h1]
    simp only [Option.bind_some]
    rw [if_neg (by decide), if_neg (by omega)]
theorem count_loop (s : ByteArray) (L : List Nat) (hs : s.size = 128) (hl : L.length = 128) (h : ∀ j, L.getD j 0 < 256) : ∀ m i t : Nat, i + m = 128 → t ≤ 64 * i →
    Ev (fun k => marks_Count.l0 k s 1024 128 (t : Int) (toI L) 128 (i : Int)) (((t + tot (L.drop i) : Nat)) : Int)
  | 0, i, t, hi, ht => by
    rw [List.drop_eq_nil_of_le (by omega)]
    refine Ev.step (f := fun _ => some ((t : Int))) (fun k => ?_) (Ev.now _)
    simp only [marks_Count.l0, hs]
    rw [if_neg (by omega), if_neg (by omega)]
  | m + 1, i, t, hi, ht => by
    have hlt : i < L.length := by omega
    have hd : L.drop i = L[i] :: L.drop (i + 1) := List.drop_eq_getElem_cons hlt
    have hg : L.getD i 0 = L[i] := by rw [List.getD_eq_getElem?_getD, List.getElem?_eq_getElem hlt]; rfl
    have hb := h i
    have hpop : Lib.onesCount (L.getD i 0) ≤ 64 := by
      have key : (List.range 256).all (fun b => decide (Lib.onesCount b ≤ 64)) = true := by kernel_rfl
      exact of_decide_eq_true (List.all_eq_true.1 key _ (List.mem_range.2 hb))
    have ih := count_loop s L hs hl h m (i + 1) (t + Lib.onesCount (L.getD i 0)) (by omega) (by omega)
    have e : t + tot (L.drop i) = t + Lib.onesCount (L.getD i 0) + tot (L.drop (i + 1)) := by rw [hd, hg]; simp only [tot, List.map_cons, List.sum_cons]; omega
    rw [e]
    refine Ev.step (f := fun k => marks_Count.l0 k s 1024 128 ((t + Lib.onesCount (L.getD i 0) : Nat) : Int) (toI L) 128 ((i + 1 : Nat) : Int)) (fun k => ?_) ih
    simp only [marks_Count.l0, toI_len, hl]
    rw [if_pos (by omega), if_pos (by omega), if_pos (by omega), toI_rd]
    unfold bits_OnesCount8.f
    rw [if_pos (by omega), if_pos (by omega), Int.toNat_natCast]
    simp only [Option.bind_some]
    rw [wrap_in ((t : Int) + _) (by omega) (by omega), wrap_in ((i : Int) + 1) (by omega) (by omega)]
    rfl
theorem count_ev (n : Int) (h1 : 51 ≤ n) (h2 : n ≤ 1024) : Ev (fun k => marks_Count.f k (marksOf n) 1024) (1024 - (n - 51)) := by
  have hs := marks_size n
  obtain ⟨h3, _⟩ := stN_inv (cnd n) 1024 (Nat.le_refl _)
  unfold marks_Count.f
  have e1 : mn (1024 / 8) (((marksOf n).size : Nat) : Int) = 128 := by rw [hs]; kernel_rfl
  have e2 : mn (mx 1024 0) 100000 = 1024 := rfl
  have e3 : mx (wrap64 (1024 - (wrap64 (8 * (((marksOf n).size : Nat) : Int))))) 0 = 0 := by rw [hs]; kernel_rfl
  simp only [e2]
  simp only [e1]
  simp only [e3]
  simp only [hs]
  have e4 : GConv.bytes.f ((marksOf n).extract 0 (128 : Int).toNat) = some (toI (stN (cnd n) 1024)) := by
    have : (marksOf n).extract 0 (128 : Int).toNat = marksOf n := by
      have := Lib.whole_piece (marksOf n)
      rwa [hs] at this
    rw [this]
    unfold GConv.bytes.f
    rw [if_pos (by omega)]
    exact congrArg some (bytes_back _ h3)
  simp only [e4, Option.bind_some, if_pos (show (0 : Int) ≤ 128 by decide), if_pos (show (128 : Int) ≤ ((128 : Nat) : Int) by decide), toI_len, stN_len]
  have := count_loop (marksOf n) (stN (cnd n) 1024) hs (stN_len _ _) h3 128 0 0 (by omega) (by omega)
  rw [List.drop_zero, tot_stN _ _ (Nat.le_refl _), cnt_eq n h1 h2] at this
  have e : ((0 + (min 1024 51 + (1024 - n.toNat)) : Nat) : Int) = 1024 - (n - 51) := by omega
  rw [e] at this
  exact this
theorem CrownMarks (n f b c p : Int) : ∃ k, wainwrightlaw10_CrownMarks.f k n f b c p = some true := by
  refine Ev.rounds (Ev.bind lives_ev ?_)
  simp only [if_true]
  refine Ev.bind (marks_ev n) (Ev.bind (rmarks_ev n) ?_)
  simp only [if_true]
  have hown : Ev (fun k => crown_Owned.f k f b c p) (rightB f b c && (decide (p ≥ 51) && decide (p < b))) := by
    unfold crown_Owned.f
    refine Ev.bind (right_ev f b c) ?_
    cases rightB f b c with
    | false => exact Ev.now _
    | true =>
      simp only [if_true, Bool.true_and]
      by_cases hp : p ≥ 51
      · simp only [if_pos hp, decide_eq_true hp, Bool.true_and]; exact Ev.now _
      · simp only [if_neg hp, decide_eq_false hp, Bool.false_and]; exact Ev.now _
  refine Ev.bind hown (Ev.bind (right_ev f b c) ?_)
  cases hr : rightB f b c with
  | false => exact Ev.now _
  | true =>
    have hb := right_bounds hr
    simp only [if_true, Bool.true_and]
    refine Ev.bind (marks_ev b) ?_
    have hw : wrap64 (1024 - (wrap64 (b - 51))) = 1024 - (b - 51) := by
      rw [wrap_in (b - 51) (by omega) (by omega), wrap_in _ (by omega) (by omega)]
    have fin : Ev (fun k => (marks_Count.f k (marksOf b) 1024).bind fun t => some (t == (wrap64 (1024 - (wrap64 (b - 51)))))) true := by
      refine Ev.bind (count_ev b (by omega) (by omega)) ?_
      rw [hw, beq_self_eq_true]
      exact Ev.now _
    have hisv : (decide (p ≥ 51) && decide (p < b)) = !(if 0 ≤ p ∧ p < 1024 then cnd b p.toNat else true) := by
      by_cases h1 : 0 ≤ p ∧ p < 1024
      · rw [if_pos h1]
        unfold cnd
        by_cases h2 : p ≥ 51
        · by_cases h3 : p < b
          · rw [decide_eq_true h2, decide_eq_true h3, decide_eq_false (by omega : ¬ p.toNat < 51), decide_eq_false (by omega : ¬ b ≤ (p.toNat : Int))]; rfl
          · rw [decide_eq_true h2, decide_eq_false h3, decide_eq_true (by omega : b ≤ (p.toNat : Int)), Bool.or_true]; rfl
        · rw [decide_eq_false h2, decide_eq_true (by omega : p.toNat < 51)]; rfl
      · rw [if_neg h1]
        by_cases h2 : p ≥ 51
        · rw [decide_eq_true h2, decide_eq_false (by omega : ¬ p < b)]; rfl
        · rw [decide_eq_false h2]; rfl
    by_cases hp : p ≥ 51
    · simp only [if_pos hp, decide_eq_true hp, Bool.true_and, beq_self_eq_true, if_true, is_eq, Option.bind_some]
      rw [decide_eq_true hp, Bool.true_and] at hisv
      simp only [← hisv, beq_self_eq_true, if_true]
      exact fin
    · simp only [if_neg hp, decide_eq_false hp, Bool.false_and, beq_self_eq_true, if_true, is_eq, Option.bind_some]
      rw [decide_eq_false hp, Bool.false_and] at hisv
      simp only [← hisv, beq_self_eq_true, if_true]
      exact fin
theorem CrownMarks_walk (a0 a1_0 a1_1 a1_2 a2 : Int) (W : World) (_w0 : (Lit.int .i64 a0).wf = true) (_w1 : (Lit.int .i64 a1_0).wf = true) (_w2 : (Lit.int .i64 a1_1).wf = true) (_w3 : (Lit.int .i64 a1_2).wf = true) (_w4 : (Lit.int .i64 a2).wf = true) :
    Calls Tryd.prog 7 #[.int .i64 a0, .agg #[.int .i64 a1_0, .int .i64 a1_1, .int .i64 a1_2], .int .i64 a2] W fun e w' => e = .returned (.bool true) ∧ Below W.heap.size W w' := by
  obtain ⟨k, hk⟩ := CrownMarks a0 a1_0 a1_1 a1_2 a2
  exact wainwrightlaw10_CrownMarks.calls k a0 a1_0 a1_1 a1_2 a2 true W hk
end Go.Proofs.YtahjalabhlakaabDoor.Pure
