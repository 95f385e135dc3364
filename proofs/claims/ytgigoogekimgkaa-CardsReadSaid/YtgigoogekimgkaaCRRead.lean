/- What the reference's reading of a record answers: the numbers of the bytes. Conditions: as the theorems state them. -/
import Derived.Test.YtgigoogekimgkaaBRead
import Derived.Test.YtgigoogekimgkaaGCrdx17
namespace Go.Proofs.Ytgigoogekimgkaa.Mould
open Go.RowKit Go.Proofs.Ytgigoogekimgkaa.GCrd Go.Proofs.YtgigoogekimgkaaW.PrintWords Go.Proofs.YtgigoogekimgkaaW.PrintLast Go.Proofs.YtgigoogekimgkaaW.PrintMore Go.Proofs.Ytgigoogekimgkaa.Plain
theorem rr_in (ws : List Int) (s : ByteArray) (acc : List Int) (i a w : Nat) (r : List Int × Int) (hw : w ≤ 4) (ha : a + w ≤ s.size) (hs : s.size ≤ 1000) (hi : i < ws.length) (hl : ws.length ≤ 100) (hacc : acc.length ≤ 100) (hwi : rd ws i = (w : Int)) (t : List Int) (ht : t = ((bytesOf s).drop a).take w) :
    ∀ n : Nat, n ≤ w → Ev (fun k => r1_Read.l0 k ws s (acc ++ [unle t]) ((a + w : Nat) : Int) ((i + 1 : Nat) : Int)) r → Ev (fun k => r1_Read.l1 k ws s acc (a : Int) (i : Int) (unle (t.drop n)) ((n : Int) - 1)) r := by
  have hb : ∀ b ∈ t, 0 ≤ b ∧ b < 256 := fun b hb => bytesOf_byte s b (by rw [ht] at hb; exact List.mem_of_mem_drop (List.mem_of_mem_take hb))
  have htl : t.length = w := by rw [ht, List.length_take, List.length_drop, bytesOf_length]; omega
  intro n
  induction n with
  | zero =>
    intro _ h
    refine Ev.step (fun k => ?_) h
    simp only [r1_Read.l1]
    rw [if_neg (by omega), if_pos (by omega), if_pos (by omega), if_pos (by omega), hwi, wrap_in ((a : Int) + w) (by omega) (by omega), wrap_in ((i : Int) + 1) (by omega) (by omega), List.drop_zero]
    rfl
  | succ n ih =>
    intro hn h
    refine Ev.step (fun k => ?_) (ih (by omega) h)
    have hlt : n < t.length := by omega
    have hd : t.drop n = t[n] :: t.drop (n + 1) := List.drop_eq_getElem_cons hlt
    have hx : t[n] = bt s ((a + n : Nat) : Int) := by
      rw [← rd_bytesOf, rd_at, List.getD_eq_getElem?_getD]
      have e : (bytesOf s)[a + n]? = t[n]? := by rw [ht, List.getElem?_take, if_pos (by omega), List.getElem?_drop]
      rw [e, List.getElem?_eq_getElem hlt]
      rfl
    have h0 := hb _ (List.getElem_mem hlt)
    have hu := unle_bound (t.drop (n + 1)) (fun b hb' => hb b (List.mem_of_mem_drop hb'))
    have hp : (256 : Int) ^ (t.drop (n + 1)).length ≤ 16777216 := by
      have : (t.drop (n + 1)).length ≤ 3 := by rw [List.length_drop]; omega
      have h2 : (256 : Nat) ^ (t.drop (n + 1)).length ≤ 256 ^ 3 := Nat.pow_le_pow_right (by omega) this
      have h3 : ((256 ^ (t.drop (n + 1)).length : Nat) : Int) ≤ ((256 ^ 3 : Nat) : Int) := by exact_mod_cast h2
      simpa using h3
    have hv : unle (t.drop n) = t[n] + 256 * unle (t.drop (n + 1)) := by rw [hd]; rfl
    simp only [r1_Read.l1]
    rw [show ((n + 1 : Nat) : Int) - 1 = (n : Int) by omega, if_pos (by omega), wrap_in ((a : Int) + n) (by omega) (by omega), if_pos (by omega), if_pos (by omega), show (a : Int) + n = ((a + n : Nat) : Int) by omega, ← hx,
      wrap_in t[n] (by omega) (by omega), wrap_in (256 * unle (t.drop (n + 1))) (by omega) (by omega), wrap_in (256 * unle (t.drop (n + 1)) + t[n]) (by omega) (by omega), wrap_in ((n : Int) - 1) (by omega) (by omega), hv, Int.add_comm (256 * _)]
theorem rr_loop (ws : List Int) (s : ByteArray) (hl : ws.length ≤ 100) (hs : s.size ≤ 1000) (d : Nat) : ∀ (i a : Nat) (acc : List Int) (m : Int), i + d = ws.length → acc.length = i → szO (ws.drop i) = some m → (a : Int) + m ≤ s.size →
    Ev (fun k => r1_Read.l0 k ws s acc (a : Int) (i : Int)) (acc ++ dec (ws.drop i) ((bytesOf s).drop a), 0) := by
  induction d with
  | zero =>
    intro i a acc m hi hP hz hm
    refine Ev.step (f := fun _ => some (acc ++ [], 0)) (fun k => ?_) ?_
    · simp only [r1_Read.l0]; rw [if_neg (by omega), List.append_nil]
    · rw [List.drop_of_length_le (by omega)]
      exact Ev.now _
  | succ d ih =>
    intro i a acc m hi hP hz hm
    have hlt : i < ws.length := by omega
    rw [drop_rd ws i hlt] at hz ⊢
    obtain ⟨w, hw⟩ : ∃ w, rd ws i = w := ⟨_, rfl⟩
    rw [hw] at hz ⊢
    obtain ⟨ho, m', hz', rfl⟩ := sz_cons hz
    have h3 := (okW_iff w).1 ho
    have hm' := sz_nonneg hz'
    obtain ⟨W, rfl⟩ : ∃ W : Nat, w = (W : Int) := ⟨w.toNat, by omega⟩
    have hn := ih (i + 1) (a + W) (acc ++ [unle (((bytesOf s).drop a).take W)]) m' (by omega) (by simp [hP]) hz' (by omega)
    rw [List.append_assoc] at hn
    have hin := rr_in ws s acc i a W _ (by omega) (by omega) hs hlt hl (by omega) hw _ rfl W (Nat.le_refl _) hn
    simp only [dec]
    rw [Int.toNat_natCast, List.drop_drop]
    refine Ev.step (fun k => ?_) hin
    simp only [r1_Read.l0]
    rw [if_pos (by omega), if_pos (by omega), hw, wrap_in ((W : Int) - 1) (by omega) (by omega), List.drop_of_length_le (by rw [List.length_take]; omega)]
    rfl
theorem rr_ev (ws : List Int) (s : ByteArray) (n : Int) (hl : ws.length ≤ 100) (hs : s.size ≤ 1000) (hz : szO ws = some n) (hn : n ≤ s.size) : Ev (fun k => r1_Read.f k ws s) (dec ws (bytesOf s), 0) := by
  have h0 := sz_nonneg hz
  refine Ev.bind (rsize_ev ws (by omega)) ?_
  rw [szI_some hz]
  refine Ev.congr (fun k => by rw [if_neg (by omega)]) ?_
  refine Ev.bind (rsize_ev ws (by omega)) ?_
  rw [szI_some hz]
  refine Ev.congr (fun k => by rw [if_neg (by omega)]) ?_
  exact rr_loop ws s hl hs ws.length 0 0 [] n (by omega) rfl hz (by omega)
theorem dec_app : ∀ (ws vs bs : List Int) (n : Int), szO ws = some n → dec (ws ++ vs) bs = dec ws bs ++ dec vs (bs.drop n.toNat)
  | [], vs, bs, n, h => by
    obtain rfl : (0 : Int) = n := by simpa [szO] using h
    rfl
  | w :: ws, vs, bs, n, h => by
    obtain ⟨ho, m, hz, rfl⟩ := sz_cons h
    have h3 := (okW_iff w).1 ho
    have hm := sz_nonneg hz
    show unle _ :: dec (ws ++ vs) _ = unle _ :: (dec ws _ ++ dec vs _)
    rw [dec_app ws vs _ m hz, List.drop_drop, show w.toNat + m.toNat = (w + m).toNat by omega]
end Go.Proofs.Ytgigoogekimgkaa.Mould
