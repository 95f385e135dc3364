/- Plain words: records of little-endian numbers (no program in sight). Conditions: as the theorems state them. -/
import Derived.Test.YtgigoogekimgkaaV
namespace Go.Proofs.Ytgigoogekimgkaa.Plain
open Go.RowKit Go.Proofs.YtgigoogekimgkaaW.PrintWords Go.Proofs.YtgigoogekimgkaaW.PrintMore
def okW (w : Int) : Bool := w == 1 || w == 2 || w == 4
def szO : List Int → Option Int
  | [] => some 0
  | w :: ws => if okW w then (szO ws).map (w + ·) else none
def le : Nat → Int → List Int
  | 0, _ => []
  | n + 1, v => v % 256 :: le n (v / 256)
def fitW (w v : Int) : Bool := decide (0 ≤ v) && decide (v < 256 ^ w.toNat)
def encO : List Int → List Int → Option (List Int)
  | w :: ws, v :: vs => if fitW w v then (encO ws vs).map (le w.toNat v ++ ·) else none
  | _, _ => some []
def unle : List Int → Int
  | [] => 0
  | b :: r => b + 256 * unle r
def dec : List Int → List Int → List Int
  | [], _ => []
  | w :: ws, bs => unle (bs.take w.toNat) :: dec ws (bs.drop w.toNat)
theorem okW_iff (w : Int) : okW w = true ↔ w = 1 ∨ w = 2 ∨ w = 4 := by
  unfold okW; simp [or_assoc]
theorem le_length (n : Nat) : ∀ v, (le n v).length = n := by
  induction n with
  | zero => intro v; rfl
  | succ n ih => intro v; simp [le, ih]
theorem le_byte (n : Nat) : ∀ v, ∀ b ∈ le n v, 0 ≤ b ∧ b < 256 := by
  induction n with
  | zero => intro v b hb; simp [le] at hb
  | succ n ih =>
    intro v b hb
    simp only [le, List.mem_cons] at hb
    rcases hb with rfl | hb
    · omega
    · exact ih _ _ hb
theorem unle_le (n : Nat) : ∀ v, 0 ≤ v → v < 256 ^ n → unle (le n v) = v := by
  induction n with
  | zero => intro v h0 h1; simp [le, unle]; simp at h1; omega
  | succ n ih =>
    intro v h0 h1
    simp only [le, unle]
    rw [ih (v / 256) (by omega) (by rw [Int.pow_succ] at h1; omega)]
    omega
theorem unle_bound : ∀ bs : List Int, (∀ b ∈ bs, 0 ≤ b ∧ b < 256) → 0 ≤ unle bs ∧ unle bs < 256 ^ bs.length := by
  intro bs
  induction bs with
  | nil => intro _; simp [unle]
  | cons b r ih =>
    intro h
    have hb := h b (by simp)
    have hr := ih (fun x hx => h x (by simp [hx]))
    simp only [unle, List.length_cons, Int.pow_succ]
    constructor <;> omega
theorem le_unle : ∀ bs : List Int, (∀ b ∈ bs, 0 ≤ b ∧ b < 256) → le bs.length (unle bs) = bs := by
  intro bs
  induction bs with
  | nil => intro _; rfl
  | cons b r ih =>
    intro h
    have hb := h b (by simp)
    have hr := ih (fun x hx => h x (by simp [hx]))
    simp only [List.length_cons, le, unle]
    rw [show (b + 256 * unle r) % 256 = b by omega, show (b + 256 * unle r) / 256 = unle r by omega, hr]
theorem unle_append (a b : List Int) : unle (a ++ b) = unle a + 256 ^ a.length * unle b := by
  induction a with
  | nil => simp [unle]
  | cons x a ih =>
    simp only [List.cons_append, unle, ih, List.length_cons, Int.pow_succ]
    rw [Int.mul_add, ← Int.mul_assoc, Int.mul_comm 256 (256 ^ a.length)]
    omega
theorem enc_bytes : ∀ (ws vs bs : List Int), encO ws vs = some bs → ∀ b ∈ bs, 0 ≤ b ∧ b < 256 := by
  intro ws
  induction ws with
  | nil => intro vs bs h b hb; simp [encO] at h; subst h; simp at hb
  | cons w ws ih =>
    intro vs bs h b hb
    cases vs with
    | nil => simp [encO] at h; subst h; simp at hb
    | cons v vs =>
      simp only [encO] at h
      split at h
      · obtain ⟨cs, hc, rfl⟩ := Option.map_eq_some_iff.1 h
        rcases List.mem_append.1 hb with hb | hb
        · exact le_byte _ _ _ hb
        · exact ih vs cs hc b hb
      · cases h
theorem sz_cons {w : Int} {ws : List Int} {n : Int} (h : szO (w :: ws) = some n) : okW w = true ∧ ∃ m, szO ws = some m ∧ n = w + m := by
  simp only [szO] at h
  split at h
  · obtain ⟨m, hm, rfl⟩ := Option.map_eq_some_iff.1 h
    exact ⟨by assumption, m, hm, rfl⟩
  · cases h
theorem sz_nonneg : ∀ {ws : List Int} {n : Int}, szO ws = some n → ws.length ≤ n ∧ n ≤ 4 * ws.length := by
  intro ws
  induction ws with
  | nil => intro n h; simp [szO] at h; subst h; simp
  | cons w ws ih =>
    intro n h
    obtain ⟨hw, m, hm, rfl⟩ := sz_cons h
    have := ih hm
    have h3 := (okW_iff w).1 hw
    simp only [List.length_cons]
    omega
theorem enc_length : ∀ {ws vs bs : List Int} {n : Int}, szO ws = some n → ws.length = vs.length → encO ws vs = some bs → (bs.length : Int) = n := by
  intro ws
  induction ws with
  | nil => intro vs bs n h _ he; simp [szO] at h; simp [encO] at he; subst h; subst he; rfl
  | cons w ws ih =>
    intro vs bs n h hl he
    cases vs with
    | nil => simp at hl
    | cons v vs =>
      obtain ⟨hw, m, hm, rfl⟩ := sz_cons h
      simp only [encO] at he
      split at he
      · obtain ⟨cs, hc, rfl⟩ := Option.map_eq_some_iff.1 he
        have := ih hm (by simpa using hl) hc
        rw [List.length_append, le_length]
        have h3 := (okW_iff w).1 hw
        omega
      · cases he
theorem dec_length : ∀ (ws bs : List Int), (dec ws bs).length = ws.length := by
  intro ws
  induction ws with
  | nil => intro bs; rfl
  | cons w ws ih => intro bs; simp [dec, ih]
/-- What is written is read again. -/
theorem dec_enc : ∀ {ws vs bs : List Int} (tl : List Int), ws.length = vs.length → encO ws vs = some bs → dec ws (bs ++ tl) = vs := by
  intro ws
  induction ws with
  | nil => intro vs bs tl hl _; cases vs with | nil => rfl | cons => simp at hl
  | cons w ws ih =>
    intro vs bs tl hl he
    cases vs with
    | nil => simp at hl
    | cons v vs =>
      simp only [encO] at he
      split at he
      · rename_i hf
        obtain ⟨cs, hc, rfl⟩ := Option.map_eq_some_iff.1 he
        unfold fitW at hf
        simp only [Bool.and_eq_true, decide_eq_true_eq] at hf
        simp only [dec]
        have e1 : ((le w.toNat v ++ cs) ++ tl).take w.toNat = le w.toNat v := by
          rw [List.append_assoc, List.take_append_of_le_length (by rw [le_length]; omega), List.take_of_length_le (by rw [le_length]; omega)]
        have e2 : ((le w.toNat v ++ cs) ++ tl).drop w.toNat = cs ++ tl := by
          rw [List.append_assoc, List.drop_append_of_le_length (by rw [le_length]; omega), List.drop_of_length_le (by rw [le_length]; omega), List.nil_append]
        rw [e1, e2, unle_le _ _ hf.1 hf.2, ih tl (by simpa using hl) hc]
      · cases he
/-- What is read of bytes is written as these bytes. -/
theorem enc_dec : ∀ {ws : List Int} {n : Int} (bs : List Int), szO ws = some n → n ≤ bs.length → (∀ b ∈ bs, 0 ≤ b ∧ b < 256) → encO ws (dec ws bs) = some (bs.take n.toNat) := by
  intro ws
  induction ws with
  | nil => intro n bs h _ _; simp [szO] at h; subst h; simp [encO]
  | cons w ws ih =>
    intro n bs h hn hb
    obtain ⟨hw, m, hm, rfl⟩ := sz_cons h
    have h3 := (okW_iff w).1 hw
    have hm0 := sz_nonneg hm
    have hbt : ∀ b ∈ bs.take w.toNat, 0 ≤ b ∧ b < 256 := fun b h => hb b (List.mem_of_mem_take h)
    have hlt : (bs.take w.toNat).length = w.toNat := by rw [List.length_take]; omega
    have hu := unle_bound _ hbt
    rw [hlt] at hu
    have hl := le_unle _ hbt
    rw [hlt] at hl
    simp only [dec, encO]
    rw [if_pos (by unfold fitW; simp only [Bool.and_eq_true, decide_eq_true_eq]; exact hu), ih (bs.drop w.toNat) hm (by rw [List.length_drop]; omega) (fun b h => hb b (List.mem_of_mem_drop h)), hl]
    simp only [Option.map_some]
    congr 1
    rw [show (w + m).toNat = w.toNat + m.toNat by omega, List.take_add]
theorem rd_at (xs : List Int) (i : Nat) : rd xs (i : Int) = xs.getD i 0 := by unfold rd; simp
theorem drop_rd (xs : List Int) (i : Nat) (h : i < xs.length) : xs.drop i = rd xs i :: xs.drop (i + 1) := by
  rw [rd_at, List.getD_eq_getElem?_getD, List.getElem?_eq_getElem h, List.drop_eq_getElem_cons h]; rfl
theorem wrap_in (x : Int) (h0 : -9223372036854775808 ≤ x) (h1 : x ≤ 9223372036854775807) : wrap64 x = x := by unfold wrap64; omega
end Go.Proofs.Ytgigoogekimgkaa.Plain
