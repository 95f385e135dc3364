/- What the reference's printed functions for records answer, and padding. Conditions: as the theorems state them. -/
import Derived.Test.YtahjalabhlakaabDoorMouldR
namespace Go.Proofs.YtahjalabhlakaabDoor.Mould
open Go.RowKit Go.Proofs.YtahjalabhlakaabDoor.GCrw Go.Proofs.YtahjalabhlakaabDoorW.PrintWords Go.Proofs.YtahjalabhlakaabDoorW.PrintLast Go.Proofs.YtahjalabhlakaabDoorW.PrintMore Go.Proofs.YtahjalabhlakaabDoor.Plain
/-! ### the reference's Write -/
theorem rwrite_in (ws vs : List Int) (i : Nat) (hi : i < ws.length) (hl : ws.length ≤ 100000000) (w : Int) (hw : rd ws (i : Int) = w) (hw8 : w ≤ 8) (r : ByteArray × Int) (m : Nat) : ∀ (acc : List Int) (v x : Int), x + m = w → 0 ≤ x → 0 ≤ v → v < 4294967296 → acc.length + m < 140737488355328 →
    Ev (fun k => wainwrightref01_Write.l0 k ws vs (acc ++ le m v) ((i + 1 : Nat) : Int)) r → Ev (fun k => wainwrightref01_Write.l1 k ws vs acc (i : Int) v x) r := by
  induction m with
  | zero =>
    intro acc v x hx h0 hv hv2 hla h
    refine Ev.step (fun k => ?_) h
    simp only [wainwrightref01_Write.l1, le, List.append_nil]
    rw [if_pos (by omega), if_pos (by omega), hw, if_neg (by omega), wrap_in ((i : Int) + 1) (by omega) (by omega)]
    rfl
  | succ m ih =>
    intro acc v x hx h0 hv hv2 hla h
    refine Ev.step (f := fun k => wainwrightref01_Write.l1 k ws vs (acc ++ [v % 256]) (i : Int) (v / 256) (x + 1)) (fun k => ?_) (ih _ _ _ (by omega) (by omega) (by omega) (by omega) (by rw [List.length_append, List.length_singleton]; omega) ?_)
    · simp only [wainwrightref01_Write.l1]
      rw [if_pos (by omega), if_pos (by omega), hw, if_pos (by omega), if_pos (by omega), Int.tmod_eq_emod_of_nonneg hv, Int.tdiv_eq_ediv_of_nonneg hv, wrap_in (v / 256) (by omega) (by omega), wrap_in (x + 1) (by omega) (by omega), show v % 256 % 256 = v % 256 by omega]
    · rw [List.append_assoc]; exact h
theorem most_fit (v w : Int) (hv : 0 ≤ v) (ho : okW w = true) : ∃ t, wainwrightref01_most.f w = some t ∧ decide (v > t) = !fitW w v ∧ (v ≤ t → v < 4294967296) := by
  have h3 := (okW_iff w).1 ho
  unfold wainwrightref01_most.f fitW
  rw [decide_eq_true hv]
  rcases h3 with rfl | rfl | rfl
  · have e2 : (256 : Int) ^ (1 : Int).toNat = 256 := by decide
    refine ⟨255, by rfl, ?_, by omega⟩
    rw [e2]
    by_cases h : v < 256
    · rw [decide_eq_true h, decide_eq_false (by omega)]; rfl
    · rw [decide_eq_false h, decide_eq_true (by omega)]; rfl
  · have e2 : (256 : Int) ^ (2 : Int).toNat = 65536 := by decide
    refine ⟨65535, by rfl, ?_, by omega⟩
    rw [e2]
    by_cases h : v < 65536
    · rw [decide_eq_true h, decide_eq_false (by omega)]; rfl
    · rw [decide_eq_false h, decide_eq_true (by omega)]; rfl
  · have e2 : (256 : Int) ^ (4 : Int).toNat = 4294967296 := by decide
    refine ⟨4294967295, by rfl, ?_, by omega⟩
    rw [e2]
    by_cases h : v < 4294967296
    · rw [decide_eq_true h, decide_eq_false (by omega)]; rfl
    · rw [decide_eq_false h, decide_eq_true (by omega)]; rfl
theorem rwrite_loop (ws vs : List Int) (n : Int) (hz : szO ws = some n) (hlen : ws.length = vs.length) (hl : ws.length ≤ 100000000) (d : Nat) : ∀ (i : Nat) (acc : List Int), i + d = vs.length → acc.length ≤ 4 * i →
    Ev (fun k => wainwrightref01_Write.l0 k ws vs acc (i : Int)) (wrI acc (encO (ws.drop i) (vs.drop i))) := by
  induction d with
  | zero =>
    intro i acc hi ha
    refine Ev.step (f := fun _ => some (strOfNums acc, 0)) (fun k => ?_) ?_
    · simp only [wainwrightref01_Write.l0]; rw [if_neg (by omega)]
    · rw [List.drop_of_length_le (show vs.length ≤ i by omega), List.drop_of_length_le (show ws.length ≤ i by omega)]
      simp only [encO, wrI, List.append_nil]
      exact Ev.now _
  | succ d ih =>
    intro i acc hi ha
    have hlt : i < ws.length := by omega
    have ho := sz_drop hz i hlt
    rw [drop_rd ws i hlt, drop_rd vs i (by omega)]
    obtain ⟨w, hw⟩ : ∃ w, rd ws i = w := ⟨_, rfl⟩
    obtain ⟨v, hv⟩ : ∃ v, rd vs i = v := ⟨_, rfl⟩
    rw [hw] at ho
    rw [hw, hv]
    have h3 := (okW_iff w).1 ho
    have hbad : fitW w v = false → Ev (fun k => wainwrightref01_Write.j2 k ws vs acc (i : Int) true) (wrI acc (encO (w :: ws.drop (i + 1)) (v :: vs.drop (i + 1)))) := by
      intro hf
      simp only [encO]
      rw [if_neg (by rw [hf]; decide)]
      refine Ev.step (f := fun _ => some (⟨#[]⟩, 3)) (fun k => ?_) (Ev.now _)
      simp only [wainwrightref01_Write.j2]; rw [if_pos trivial]
    by_cases hn : v < 0
    · refine Ev.step (fun k => ?_) (hbad (fit_neg w v hn))
      simp only [wainwrightref01_Write.l0]
      rw [if_pos (by omega), if_pos (by omega), if_pos (by omega), hv, if_pos hn]
    · obtain ⟨t, ht, hd, hle⟩ := most_fit v w (by omega) ho
      have h0 : ∀ k, wainwrightref01_Write.l0 (k + 1) ws vs acc (i : Int) = wainwrightref01_Write.j2 k ws vs acc (i : Int) (decide (v > t)) := by
        intro k
        simp only [wainwrightref01_Write.l0]
        rw [if_pos (by omega), if_pos (by omega), if_pos (by omega), hv, hw, if_neg hn, ht]
        rfl
      refine Ev.step h0 ?_
      rw [hd]
      by_cases hf : fitW w v = true
      · rw [hf]
        simp only [encO]
        rw [if_pos hf]
        have hnx := ih (i + 1) (acc ++ le w.toNat v) (by omega) (by rw [List.length_append, le_length]; omega)
        have he : wrI (acc ++ le w.toNat v) (encO (ws.drop (i + 1)) (vs.drop (i + 1))) = wrI acc ((encO (ws.drop (i + 1)) (vs.drop (i + 1))).map (le w.toNat v ++ ·)) := by
          cases encO (ws.drop (i + 1)) (vs.drop (i + 1)) with
          | none => rfl
          | some bs => simp only [wrI, Option.map_some, List.append_assoc]
        rw [he] at hnx
        have hvt : v ≤ t := by
          rw [hf] at hd
          have := of_decide_eq_false hd
          omega
        refine Ev.step (f := fun k => wainwrightref01_Write.l1 k ws vs acc (i : Int) v 0) (fun k => ?_) (rwrite_in ws vs i hlt hl w hw (by omega) _ w.toNat acc v 0 (by omega) (by omega) (by omega) (hle hvt) (by omega) hnx)
        simp only [wainwrightref01_Write.j2]
        rw [if_neg (by decide), if_pos (by omega), if_pos (by omega), hv]
      · have hf' : fitW w v = false := by simpa using hf
        rw [hf']
        exact hbad hf'
theorem rwrite_ev (ws vs : List Int) (hl : ws.length ≤ 100000000) : Ev (fun k => wainwrightref01_Write.f k ws vs) (wrAll ws vs) := by
  unfold wrAll
  refine Ev.bind (rsize_ev ws hl) ?_
  cases hz : szO ws with
  | none =>
    rw [szI_none hz]
    refine Ev.step (f := fun _ => some (⟨#[]⟩, 1)) (fun k => ?_) (Ev.now _)
    rw [if_pos (by omega)]
    simp only [wainwrightref01_Write.j0]; rw [if_pos trivial]
  | some n =>
    have hn := sz_nonneg hz
    rw [szI_some hz]
    by_cases he : ws.length = vs.length
    · rw [if_pos (by simp [he])]
      have hw := rwrite_loop ws vs n hz he hl vs.length 0 [] (by omega) (by simp)
      rw [List.drop_zero, List.drop_zero] at hw
      refine Ev.step (fun k => ?_) hw
      rw [if_neg (by omega), show ((ws.length : Int) != (vs.length : Int)) = false by simp [he]]
      simp only [wainwrightref01_Write.j0]; rw [if_neg (by decide)]; rfl
    · rw [if_neg (by simp [he])]
      refine Ev.step (f := fun _ => some (⟨#[]⟩, 1)) (fun k => ?_) (Ev.now _)
      rw [if_neg (by omega), show ((ws.length : Int) != (vs.length : Int)) = true by rw [bne_iff_ne]; omega]
      simp only [wainwrightref01_Write.j0]; rw [if_pos trivial]
/-! ### the reference's Read -/
theorem bt_bytes (s : ByteArray) (i : Nat) (_h : i < s.size) : bt s (i : Int) = (bytesOf s).getD i 0 := by
  rw [← rd_at]
  exact (rd_bytesOf s i).symm
theorem rread_in (ws : List Int) (s : ByteArray) (acc : List Int) (p i : Nat) (hi : i < ws.length) (hl : ws.length ≤ 100000000) (w : Nat) (hw : rd ws (i : Int) = w) (hps : p + w ≤ s.size) (hp : p ≤ 400000000) (hw4 : w ≤ 4) (ha : acc.length ≤ 100000000) (r : List Int × Int)
    (d : Nat) : ∀ (x : Int), d ≤ w → x = unle ((((bytesOf s).drop p).take w).drop d) →
    Ev (fun k => wainwrightref01_Read.l0 k ws s (acc ++ [unle (((bytesOf s).drop p).take w)]) ((p + w : Nat) : Int) ((i + 1 : Nat) : Int)) r →
    Ev (fun k => wainwrightref01_Read.l1 k ws s acc (p : Int) (i : Int) x ((d : Int) - 1)) r := by
  induction d with
  | zero =>
    intro x hd hx h
    rw [List.drop_zero] at hx
    subst hx
    refine Ev.step (fun k => ?_) h
    simp only [wainwrightref01_Read.l1]
    rw [if_neg (by omega), if_pos (by omega), if_pos (by omega), if_pos (by omega), hw, wrap_in ((p : Int) + (w : Int)) (by omega) (by omega), wrap_in ((i : Int) + 1) (by omega) (by omega)]
    rfl
  | succ d ih =>
    intro x hd hx h
    have hlen : (((bytesOf s).drop p).take w).length = w := by rw [List.length_take, List.length_drop, bytesOf_length]; omega
    have hbt : ∀ b ∈ ((bytesOf s).drop p).take w, 0 ≤ b ∧ b < 256 := fun b hb => bytesOf_byte s b (List.mem_of_mem_drop (List.mem_of_mem_take hb))
    have hu := unle_bound _ (fun b hb => hbt b (List.mem_of_mem_drop hb) : ∀ b ∈ (((bytesOf s).drop p).take w).drop (d + 1), 0 ≤ b ∧ b < 256)
    rw [List.length_drop, hlen] at hu
    have hx3 : 0 ≤ x ∧ x < 16777216 := by
      rw [hx]
      refine ⟨hu.1, Int.lt_of_lt_of_le hu.2 ?_⟩
      have : w - (d + 1) ≤ 3 := by omega
      obtain h | h | h | h : w - (d + 1) = 0 ∨ w - (d + 1) = 1 ∨ w - (d + 1) = 2 ∨ w - (d + 1) = 3 := by omega
      all_goals (rw [h]; decide)
    have hdl : d < (((bytesOf s).drop p).take w).length := by omega
    have hb : bt s ((p : Int) + (d : Int)) = (((bytesOf s).drop p).take w)[d] := by
      rw [show ((p : Int) + (d : Int)) = ((p + d : Nat) : Int) by omega, bt_bytes s (p + d) (by omega), List.getElem_take, List.getElem_drop, List.getD_eq_getElem?_getD, List.getElem?_eq_getElem (by rw [bytesOf_length]; omega)]
      rfl
    have hbr := hbt _ (List.getElem_mem hdl)
    refine Ev.step (fun k => ?_) (ih (256 * x + bt s ((p : Int) + (d : Int))) (by omega) (by rw [List.drop_eq_getElem_cons hdl]; simp only [unle]; rw [hb, hx]; omega) h)
    simp only [wainwrightref01_Read.l1]
    rw [if_pos (by omega), show ((d + 1 : Nat) : Int) - 1 = (d : Int) by omega, wrap_in ((p : Int) + (d : Int)) (by omega) (by omega), if_pos (by omega), if_pos (by omega), wrap_in (256 * x) (by omega) (by omega), wrap_in (bt s ((p : Int) + (d : Int))) (by rw [hb]; omega) (by rw [hb]; omega), wrap_in (256 * x + _) (by rw [hb]; omega) (by rw [hb]; omega), wrap_in ((d : Int) - 1) (by omega) (by omega)]
theorem dec_at (w : Nat) (ws bs : List Int) : dec ((w : Int) :: ws) bs = unle (bs.take w) :: dec ws (bs.drop w) := rfl
theorem rread_loop (ws : List Int) (s : ByteArray) (hl : ws.length ≤ 100000000) (d : Nat) : ∀ (i p : Nat) (acc : List Int) (m : Int), i + d = ws.length → acc.length = i → p ≤ 4 * i → szO (ws.drop i) = some m → p + m ≤ s.size →
    Ev (fun k => wainwrightref01_Read.l0 k ws s acc (p : Int) (i : Int)) (acc ++ dec (ws.drop i) ((bytesOf s).drop p), 0) := by
  induction d with
  | zero =>
    intro i p acc m hi ha hp hz hm
    refine Ev.step (f := fun _ => some (acc, 0)) (fun k => ?_) ?_
    · simp only [wainwrightref01_Read.l0]; rw [if_neg (by omega)]
    · rw [List.drop_of_length_le (by omega)]
      simp only [dec, List.append_nil]
      exact Ev.now _
  | succ d ih =>
    intro i p acc m hi ha hp hz hm
    have hlt : i < ws.length := by omega
    rw [drop_rd ws i hlt] at hz ⊢
    obtain ⟨w0, hw0⟩ : ∃ w, rd ws i = w := ⟨_, rfl⟩
    rw [hw0] at hz ⊢
    obtain ⟨ho, m', hz', rfl⟩ := sz_cons hz
    have h3 := (okW_iff w0).1 ho
    have hm' := sz_nonneg hz'
    obtain ⟨w, rfl⟩ : ∃ w : Nat, w0 = w := ⟨w0.toNat, by omega⟩
    have hn := ih (i + 1) (p + w) (acc ++ [unle (((bytesOf s).drop p).take w)]) m' (by omega) (by simp [ha]) (by omega) hz' (by omega)
    rw [List.append_assoc] at hn
    rw [dec_at, List.drop_drop]
    have hin := rread_in ws s acc p i hlt hl w hw0 (by omega) (by omega) (by omega) (by omega) _ w 0 (Nat.le_refl _) (by rw [List.drop_of_length_le (by rw [List.length_take]; omega)]; rfl) hn
    refine Ev.step (fun k => ?_) hin
    simp only [wainwrightref01_Read.l0]
    rw [if_pos (by omega), if_pos (by omega), hw0, wrap_in ((w : Int) - 1) (by omega) (by omega)]
theorem rread_ev (ws : List Int) (s : ByteArray) (hl : ws.length ≤ 100000000) : Ev (fun k => wainwrightref01_Read.f k ws s) (rdAll ws s) := by
  refine Ev.bind (rsize_ev ws hl) ?_
  unfold rdAll
  cases hz : szO ws with
  | none => rw [szI_none hz]; exact Ev.congr (fun k => by rw [if_pos (by omega)]) (Ev.now _)
  | some n =>
    have hn := sz_nonneg hz
    rw [szI_some hz]
    refine Ev.congr (fun k => by rw [if_neg (by omega)]) ?_
    refine Ev.bind (rsize_ev ws hl) ?_
    rw [szI_some hz]
    by_cases h : (s.size : Int) < n
    · simp only [h, if_true]
      exact Ev.now _
    · simp only [h, if_false]
      have := rread_loop ws s hl ws.length 0 0 [] n (by omega) rfl (by omega) (by rw [List.drop_zero]; exact hz) (by omega)
      rw [List.drop_zero, List.drop_zero] at this
      exact this
/-! ### Pad -/
theorem repeat_zero (n : Nat) : ∀ m, m = n → (⟨(Lib.repeatL [0] m).toArray⟩ : ByteArray) = strOfNums (List.replicate n 0) := by
  intro m hm
  subst hm
  unfold strOfNums
  rw [List.map_replicate]
  congr 2
  induction m with
  | zero => rfl
  | succ m ih => simp [Lib.repeatL, List.replicate_succ] at ih ⊢; exact ih
theorem fits_ev (a : ByteArray) (n : Int) (h0 : 0 ≤ n) (h1 : n ≤ 1000) : Ev (fun k => mould_fits.f k a n) (if (a.size : Int) > n then 3 else 0) := by
  refine Ev.step (f := fun _ => some (if (a.size : Int) > n then 3 else 0)) (fun k => ?_) (Ev.now _)
  simp only [mould_fits.f, mould_fits.j0]
  rw [if_neg (by omega), decide_eq_false (by omega), if_neg (by decide)]
  by_cases h : (a.size : Int) > n
  · rw [if_pos h, if_pos h]
  · rw [if_neg h, if_neg h]
/-- Pad at a length that may be, of a text that fits. -/
theorem pad_ev (a : ByteArray) (n : Nat) (h1 : n ≤ 1000) (ha : a.size ≤ n) : Ev (fun k => mould_Pad.f k a (n : Int)) (a ++ strOfNums (List.replicate (n - a.size) 0), 0) := by
  refine Ev.bind (fits_ev a n (by omega) (by omega)) ?_
  have h3 : ¬ ((a.size : Int) > (n : Int)) := by omega
  simp only [h3, if_false]
  refine Ev.congr (fun k => ?_) (Ev.now _)
  rw [if_pos trivial, wrap_in _ (by omega) (by omega)]
  have hr : strings_Repeat.f ⟨#[0]⟩ ((n : Int) - (a.size : Int)) = some (strOfNums (List.replicate (n - a.size) 0)) := by
    unfold strings_Repeat.f
    have hsz : (⟨#[0]⟩ : ByteArray).size = 1 := rfl
    rw [if_pos (by omega), if_pos (by omega), hsz, if_pos (by omega)]
    congr 1
    exact repeat_zero (n - a.size) _ (by omega)
  rw [hr]
  simp only [Option.bind_some]
  rw [if_pos (by rw [strOfNums_size, List.length_replicate]; omega)]
end Go.Proofs.YtahjalabhlakaabDoor.Mould
