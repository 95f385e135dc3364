/- What the printed functions of the records' packages answer: reading, and the reference's writing. Conditions: as the theorems state them. -/
import Derived.Test.YtgigoogekimgkaaMouldC
import Derived.Laws.BitsAllLaws
namespace Go.Proofs.Ytgigoogekimgkaa.Mould
open Go.RowKit Go.Proofs.Ytgigoogekimgkaa.GCrd Go.Proofs.YtgigoogekimgkaaW.PrintWords Go.Proofs.YtgigoogekimgkaaW.PrintLast Go.Proofs.YtgigoogekimgkaaW.PrintMore Go.Proofs.Ytgigoogekimgkaa.Plain
theorem or_join (j : Nat) (hj : j ≤ 3) (a b : Int) (ha : 0 ≤ a) (ha2 : a < 256 ^ j) (hb : 0 ≤ b) (hb2 : b < 256) :
    Go.bits .or .i64 a (shl .i64 b (8 * j)) = a + 256 ^ j * b := by
  obtain ⟨x, rfl⟩ := Int.eq_ofNat_of_zero_le ha
  obtain ⟨y, rfl⟩ := Int.eq_ofNat_of_zero_le hb
  have key : ∀ (p : Nat), x < 2 ^ p → p ≤ 24 → Go.bits .or .i64 (x : Int) ((y * 2 ^ p : Nat) : Int) = ((x + y * 2 ^ p : Nat) : Int) := by
    intro p hx hp
    have h2 : (2 : Nat) ^ p ≤ 2 ^ 24 := Nat.pow_le_pow_right (by omega) hp
    have hy : y * 2 ^ p < 2 ^ 32 := by
      have : y * 2 ^ p ≤ 255 * 2 ^ 24 := Nat.mul_le_mul (by omega) h2
      omega
    have h2' : (2 : Nat) ^ 24 = 16777216 := by decide
    have ho : x ||| y * 2 ^ p = x + y * 2 ^ p := by
      rw [Nat.or_comm, Go.nat_join p (y * 2 ^ p) x (Nat.mul_mod_left _ _) hx]; omega
    show IntKind.i64.wrap ((BitVec.ofInt 64 (x : Int) ||| BitVec.ofInt 64 ((y * 2 ^ p : Nat) : Int)).toNat : Int) = _
    rw [BitVec.toNat_or, Go.ofInt_u64 x (by omega), Go.ofInt_u64 (y * 2 ^ p) (by omega), ho, IntKind.wrap_i64]
    omega
  have hs : ∀ (p q : Nat), p = 8 * j → q = 2 ^ p → p ≤ 24 → shl .i64 (y : Int) (8 * j) = ((y * q : Nat) : Int) := by
    intro p q hp hq h24
    have h2 : (2 : Nat) ^ p ≤ 2 ^ 24 := Nat.pow_le_pow_right (by omega) h24
    have h2' : (2 : Nat) ^ 24 = 16777216 := by decide
    have hy : y * q ≤ 255 * 16777216 := Nat.mul_le_mul (by omega) (by omega)
    unfold shl
    have e : min (8 * (j : Int)).toNat IntKind.i64.bits = p := by
      show min _ 64 = p
      omega
    rw [e, IntKind.wrap_i64]
    have e2 : (y : Int) * 2 ^ p = ((y * q : Nat) : Int) := by rw [hq]; simp
    rw [e2]
    omega
  obtain rfl | rfl | rfl | rfl : j = 0 ∨ j = 1 ∨ j = 2 ∨ j = 3 := by omega
  · rw [hs 0 1 rfl rfl (by omega)]
    have := key 0 (by simp at ha2; omega) (by omega)
    simp only [Nat.pow_zero] at this
    rw [this]; simp
  · rw [hs 8 256 rfl rfl (by omega)]
    have := key 8 (by simp at ha2; omega) (by omega)
    rw [show (2 : Nat) ^ 8 = 256 by decide] at this
    rw [this]; simp; omega
  · rw [hs 16 65536 rfl rfl (by omega)]
    have := key 16 (by simp at ha2; omega) (by omega)
    rw [show (2 : Nat) ^ 16 = 65536 by decide] at this
    rw [this]; simp; omega
  · rw [hs 24 16777216 rfl rfl (by omega)]
    have := key 24 (by simp at ha2; omega) (by omega)
    rw [show (2 : Nat) ^ 24 = 16777216 by decide] at this
    rw [this]; simp; omega
theorem bytesOf_byte (s : ByteArray) : ∀ b ∈ bytesOf s, 0 ≤ b ∧ b < 256 := by
  intro b hb
  unfold bytesOf at hb
  obtain ⟨x, _, rfl⟩ := List.mem_map.1 hb
  have := UInt8.toNat_lt x
  omega
theorem bytesOf_extract (s : ByteArray) (i j : Nat) : bytesOf (s.extract i j) = ((bytesOf s).take j).drop i := by
  unfold bytesOf
  rw [ByteArray.data_extract, Array.toList_extract, ← List.map_take, ← List.map_drop]
  congr 1
  rw [List.extract_eq_take_drop, List.take_drop]
  by_cases h : i ≤ j
  · rw [show i + (j - i) = j by omega]
  · rw [List.drop_of_length_le (by rw [List.length_take]; omega), List.drop_of_length_le (by rw [List.length_take]; omega)]
theorem bytesOf_tail (s : ByteArray) (i : Nat) : bytesOf (s.extract i s.size) = (bytesOf s).drop i := by
  rw [bytesOf_extract, List.take_of_length_le (by rw [bytesOf_length]; omega)]
theorem bytesOf_head (s : ByteArray) (j : Nat) : bytesOf (s.extract 0 j) = (bytesOf s).take j := by rw [bytesOf_extract, List.drop_zero]
theorem rd_mid (P : List Int) (a : Int) (R : List Int) : rd (P ++ a :: R) (P.length : Int) = a := by
  rw [rd_at]; simp
theorem set_mid (P : List Int) (a b : Int) (R : List Int) : (P ++ a :: R).set P.length b = P ++ b :: R := by
  rw [List.set_append_right _ _ (by omega)]; simp
/-- One number, byte by byte. -/
theorem read_in (ws : List Int) (s : ByteArray) (P R : List Int) (w : Int) (t : List Int) (r : List Int × Int) (hb : ∀ b ∈ t, 0 ≤ b ∧ b < 256) (h4 : t.length ≤ 4) (hw0 : 0 ≤ w) (hws : w ≤ s.size) (i : Nat) (hi : P.length = i) (hi2 : i ≤ 100000000)
    (d : Nat) : ∀ (j : Nat), j + d = t.length →
    Ev (fun k => mould_Read.l0 k (s.extract w.toNat s.size) (P ++ unle t :: R) ws (ws.length : Int) ((i + 1 : Nat) : Int)) r →
    Ev (fun k => mould_Read.l1 k s (P ++ unle (t.take j) :: R) (i : Int) w ws (ws.length : Int) (i : Int) t (t.length : Int) (j : Int)) r := by
  induction d with
  | zero =>
    intro j hj h
    refine Ev.step (fun k => ?_) h
    simp only [mould_Read.l1]
    rw [if_neg (by omega), if_pos hw0, if_pos hws, wrap_in ((i : Int) + 1) (by omega) (by omega), List.take_of_length_le (by omega)]
    rfl
  | succ d ih =>
    intro j hj h
    refine Ev.step (fun k => ?_) (ih (j + 1) (by omega) h)
    have hjl : j < t.length := by omega
    have hbj : 0 ≤ rd t j ∧ rd t j < 256 := by
      rw [rd_at, List.getD_eq_getElem?_getD, List.getElem?_eq_getElem hjl]
      exact hb _ (List.getElem_mem hjl)
    have hu := unle_bound (t.take j) (fun b hb' => hb b (List.mem_of_mem_take hb'))
    rw [List.length_take, Nat.min_eq_left (by omega)] at hu
    simp only [mould_Read.l1]
    rw [if_pos (by omega), if_pos (by omega), if_pos (by omega), if_pos (by omega), if_pos (by rw [List.length_append, List.length_cons]; omega), wrap_in (8 * (j : Int)) (by omega) (by omega), if_pos (by omega), wrap_in ((j : Int) + 1) (by omega) (by omega), wrap_in (rd t j) (by omega) (by omega)]
    have e1 : rd (P ++ unle (t.take j) :: R) (i : Int) = unle (t.take j) := by rw [← hi]; exact rd_mid _ _ _
    rw [e1, or_join j (by omega) _ _ hu.1 hu.2 hbj.1 hbj.2]
    have e2 : unle (t.take (j + 1)) = unle (t.take j) + 256 ^ j * rd t j := by
      rw [List.take_succ_eq_append_getElem hjl, unle_append, List.length_take, Nat.min_eq_left (by omega)]
      simp only [unle]
      rw [rd_at, List.getD_eq_getElem?_getD, List.getElem?_eq_getElem hjl]
      simp
    rw [← e2]
    have e3 : (P ++ unle (t.take j) :: R).set (i : Int).toNat (unle (t.take (j + 1))) = P ++ unle (t.take (j + 1)) :: R := by
      rw [Int.toNat_natCast, ← hi]; exact set_mid _ _ _ _
    rw [e3]
    rfl
theorem read_loop (ws : List Int) (hl : ws.length ≤ 100000000) (d : Nat) : ∀ (i : Nat) (s : ByteArray) (P : List Int) (m : Int), i + d = ws.length → P.length = i → szO (ws.drop i) = some m → m ≤ s.size → s.size ≤ 9223372036854775807 →
    Ev (fun k => mould_Read.l0 k s (P ++ List.replicate d 0) ws (ws.length : Int) (i : Int)) (P ++ dec (ws.drop i) (bytesOf s), 0) := by
  induction d with
  | zero =>
    intro i s P m hi hP hz hm hs
    refine Ev.step (f := fun _ => some (P ++ [], 0)) (fun k => ?_) ?_
    · simp only [mould_Read.l0]; rw [if_neg (by omega)]; rfl
    · rw [List.drop_of_length_le (by omega)]
      exact Ev.now _
  | succ d ih =>
    intro i s P m hi hP hz hm hs
    have hlt : i < ws.length := by omega
    rw [drop_rd ws i hlt] at hz ⊢
    obtain ⟨w, hw⟩ : ∃ w, rd ws i = w := ⟨_, rfl⟩
    rw [hw] at hz ⊢
    obtain ⟨ho, m', hz', rfl⟩ := sz_cons hz
    have h3 := (okW_iff w).1 ho
    have hm' := sz_nonneg hz'
    have hn := ih (i + 1) (s.extract w.toNat s.size) (P ++ [unle ((bytesOf s).take w.toNat)]) m' (by omega) (by simp [hP]) hz' (by rw [ByteArray.size_extract]; omega) (by rw [ByteArray.size_extract]; omega)
    rw [bytesOf_tail, List.append_assoc, List.append_assoc] at hn
    simp only [dec]
    have hin := read_in ws s P (List.replicate d 0) w ((bytesOf s).take w.toNat) _ (fun b hb => bytesOf_byte s b (List.mem_of_mem_take hb)) (by rw [List.length_take]; omega) (by omega) (by omega) i hP (by omega) ((bytesOf s).take w.toNat).length 0 (by omega) hn
    refine Ev.step (fun k => ?_) hin
    have hlen : ((bytesOf s).take w.toNat).length = w.toNat := by rw [List.length_take, bytesOf_length]; omega
    simp only [mould_Read.l0]
    rw [if_pos (by omega), if_pos (by omega), if_pos (by omega), hw, if_pos (by omega), if_pos (by omega)]
    have eb : GConv.bytes.f (s.extract 0 w.toNat) = some ((bytesOf s).take w.toNat) := by
      unfold GConv.bytes.f
      rw [if_pos (by rw [ByteArray.size_extract]; omega), bytesOf_head]
    rw [eb]
    rfl
/-- mould.Read, whole. -/
def rdAll (ws : List Int) (s : ByteArray) : List Int × Int :=
  match szO ws with
  | none => ([], 1)
  | some n => if (s.size : Int) < n then ([], 2) else (dec ws (bytesOf s), 0)
theorem read_ev (ws : List Int) (s : ByteArray) (hl : ws.length ≤ 100000000) (hs : s.size ≤ 9223372036854775807) : Ev (fun k => mould_Read.f k ws s) (rdAll ws s) := by
  refine Ev.bind (size_ev ws hl) ?_
  unfold rdAll
  cases hz : szO ws with
  | none => rw [szI_none hz]; exact Ev.congr (fun k => by rw [if_pos (by omega)]) (Ev.now _)
  | some n =>
    have hn := sz_nonneg hz
    rw [szI_some hz]
    by_cases h : (s.size : Int) < n
    · simp only [h, if_true]
      exact Ev.congr (fun k => by rw [if_neg (by omega)]) (Ev.now _)
    · simp only [h, if_false]
      have := read_loop ws hl ws.length 0 s [] n (by omega) rfl (by rw [List.drop_zero]; exact hz) (by omega) hs
      rw [List.drop_zero] at this
      refine Ev.congr (fun k => ?_) this
      rw [if_neg (by omega), if_pos (by omega), if_pos (by omega)]
      rfl
end Go.Proofs.Ytgigoogekimgkaa.Mould
