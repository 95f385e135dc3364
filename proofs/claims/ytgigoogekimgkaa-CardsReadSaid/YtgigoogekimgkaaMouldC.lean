/- Plain words: the records that mould and the reference write, and what pads them. Conditions: as the theorems state them. -/
import Derived.Test.YtgigoogekimgkaaPlain
import Derived.Test.YtgigoogekimgkaaGCrdx6
import Derived.Test.YtgigoogekimgkaaGCrdx9
import Derived.Test.YtgigoogekimgkaaGCrdx5
import Derived.Test.YtgigoogekimgkaaGCrdx15
namespace Go.Proofs.Ytgigoogekimgkaa.Mould
open Go.RowKit Go.Proofs.Ytgigoogekimgkaa.GCrd Go.Proofs.YtgigoogekimgkaaW.PrintWords Go.Proofs.YtgigoogekimgkaaW.PrintLast Go.Proofs.YtgigoogekimgkaaW.PrintMore Go.Proofs.Ytgigoogekimgkaa.Plain
/-- The size of a mould, as both texts have it: -1 where a width may not be. -/
def szI (ws : List Int) : Int := (szO ws).getD (-1)
theorem szI_some {ws : List Int} {n : Int} (h : szO ws = some n) : szI ws = n := by unfold szI; rw [h]; rfl
theorem szI_none {ws : List Int} (h : szO ws = none) : szI ws = -1 := by unfold szI; rw [h]; rfl
def addO (a : Int) : Option Int → Int
  | some n => a + n
  | none => -1
theorem size_loop (ws : List Int) (hl : ws.length ≤ 100000000) (d : Nat) : ∀ (i : Nat) (a : Int), i + d = ws.length → 0 ≤ a → a ≤ 4 * i →
    Ev (fun k => mould_Size.l0 k a ws (ws.length : Int) (i : Int)) (addO a (szO (ws.drop i))) := by
  induction d with
  | zero =>
    intro i a hi h0 h1
    refine Ev.step (f := fun _ => some a) (fun k => ?_) ?_
    · simp only [mould_Size.l0]; rw [if_neg (by omega)]
    · rw [List.drop_of_length_le (by omega)]
      simp only [szO, addO, Int.add_zero]
      exact Ev.now _
  | succ d ih =>
    intro i a hi h0 h1
    have hlt : i < ws.length := by omega
    rw [drop_rd ws i hlt]
    obtain ⟨w, hw⟩ : ∃ w, rd ws i = w := ⟨_, rfl⟩
    rw [hw]
    by_cases ho : okW w = true
    · have h3 := (okW_iff w).1 ho
      have hn := ih (i + 1) (a + w) (by omega) (by omega) (by omega)
      have he : addO (a + w) (szO (ws.drop (i + 1))) = addO a (szO (w :: ws.drop (i + 1))) := by
        simp only [szO]
        rw [if_pos ho]
        cases szO (ws.drop (i + 1)) with
        | none => rfl
        | some n => simp only [addO, Option.map_some]; omega
      rw [he] at hn
      refine Ev.step (fun k => ?_) hn
      simp only [mould_Size.l0]
      rw [if_pos (by omega), if_pos (by omega), if_pos (by omega), hw, wrap_in (a + w) (by omega) (by omega), wrap_in ((i : Int) + 1) (by omega) (by omega), show ((i : Int) + 1) = ((i + 1 : Nat) : Int) by omega]
      rcases h3 with h | h | h
      · rw [if_pos h]
      · rw [if_neg (by omega), if_pos h]
      · rw [if_neg (by omega), if_neg (by omega), if_pos h]
    · have h3 : ¬ (w = 1 ∨ w = 2 ∨ w = 4) := fun h => ho ((okW_iff w).2 h)
      simp only [szO]
      rw [if_neg ho]
      refine Ev.step (f := fun _ => some (-1)) (fun k => ?_) (Ev.now _)
      simp only [mould_Size.l0]
      rw [if_pos (by omega), if_pos (by omega), if_pos (by omega), hw, if_neg (by omega), if_neg (by omega), if_neg (by omega)]
theorem size_ev (ws : List Int) (hl : ws.length ≤ 100000000) : Ev (fun k => mould_Size.f k ws) (szI ws) := by
  have h := size_loop ws hl ws.length 0 0 (by omega) (by omega) (by omega)
  have e : addO 0 (szO (ws.drop 0)) = szI ws := by
    rw [List.drop_zero]; unfold szI addO
    cases szO ws with
    | none => rfl
    | some n => simp
  rw [e] at h
  exact h
theorem rsize_loop (ws : List Int) (hl : ws.length ≤ 100000000) (d : Nat) : ∀ (i : Nat) (a : Int), i + d = ws.length → 0 ≤ a → a ≤ 4 * i →
    Ev (fun k => r1_Size.l0 k ws a (i : Int)) (addO a (szO (ws.drop i))) := by
  induction d with
  | zero =>
    intro i a hi h0 h1
    refine Ev.step (f := fun _ => some a) (fun k => ?_) ?_
    · simp only [r1_Size.l0]; rw [if_neg (by omega)]
    · rw [List.drop_of_length_le (by omega)]
      simp only [szO, addO, Int.add_zero]
      exact Ev.now _
  | succ d ih =>
    intro i a hi h0 h1
    have hlt : i < ws.length := by omega
    rw [drop_rd ws i hlt]
    obtain ⟨w, hw⟩ : ∃ w, rd ws i = w := ⟨_, rfl⟩
    rw [hw]
    by_cases ho : okW w = true
    · have h3 := (okW_iff w).1 ho
      have hn := ih (i + 1) (a + w) (by omega) (by omega) (by omega)
      have he : addO (a + w) (szO (ws.drop (i + 1))) = addO a (szO (w :: ws.drop (i + 1))) := by
        simp only [szO]
        rw [if_pos ho]
        cases szO (ws.drop (i + 1)) with
        | none => rfl
        | some n => simp only [addO, Option.map_some]; omega
      rw [he] at hn
      refine Ev.step (fun k => ?_) hn
      simp only [r1_Size.l0]
      rw [if_pos (by omega), if_pos (by omega), hw, wrap_in (a + w) (by omega) (by omega), wrap_in ((i : Int) + 1) (by omega) (by omega), show ((i : Int) + 1) = ((i + 1 : Nat) : Int) by omega]
      rcases h3 with h | h | h
      · rw [if_pos h]
      · rw [if_neg (by omega), if_pos h]
      · rw [if_neg (by omega), if_neg (by omega), if_pos h]
    · have h3 : ¬ (w = 1 ∨ w = 2 ∨ w = 4) := fun h => ho ((okW_iff w).2 h)
      simp only [szO]
      rw [if_neg ho]
      refine Ev.step (f := fun _ => some (-1)) (fun k => ?_) (Ev.now _)
      simp only [r1_Size.l0]
      rw [if_pos (by omega), if_pos (by omega), hw, if_neg (by omega), if_neg (by omega), if_neg (by omega)]
theorem rsize_ev (ws : List Int) (hl : ws.length ≤ 100000000) : Ev (fun k => r1_Size.f k ws) (szI ws) := by
  have h := rsize_loop ws hl ws.length 0 0 (by omega) (by omega) (by omega)
  have e : addO 0 (szO (ws.drop 0)) = szI ws := by
    rw [List.drop_zero]; unfold szI addO
    cases szO ws with
    | none => rfl
    | some n => simp
  rw [e] at h
  exact h
/-! ### Write -/
theorem write_in (ws vs : List Int) (n i : Int) (r : ByteArray × Int) (m : Nat) : ∀ (acc : List Int) (v w : Int), w = m → m ≤ 8 → acc.length + m < 140737488355328 →
    Ev (fun k => mould_Write.l0 k ws (acc ++ le m v) vs n (wrap64 (i + 1))) r → Ev (fun k => mould_Write.l1 k ws acc v w vs n i) r := by
  induction m with
  | zero =>
    intro acc v w hw hm hl h
    refine Ev.step (fun k => ?_) h
    simp only [mould_Write.l1, le, List.append_nil]
    rw [if_neg (by omega)]
  | succ m ih =>
    intro acc v w hw hm hl h
    refine Ev.step (f := fun k => mould_Write.l1 k ws (acc ++ [v % 256]) (v / 256) (w - 1) vs n i) (fun k => ?_) (ih _ _ _ (by omega) (by omega) (by rw [List.length_append, List.length_singleton]; omega) ?_)
    · simp only [mould_Write.l1]
      rw [if_pos (by omega), if_pos (by omega), wrap_in (w - 1) (by omega) (by omega)]
    · rw [List.append_assoc]; exact h
/-- What Write answers. -/
def wrI (acc : List Int) : Option (List Int) → ByteArray × Int
  | some bs => (strOfNums (acc ++ bs), 0)
  | none => (⟨#[]⟩, 3)
theorem shr_fit (v w : Int) (hv : 0 ≤ v) (ho : okW w = true) : (shr .i64 v (8 * w) != 0) = !fitW w v := by
  have h3 := (okW_iff w).1 ho
  unfold shr fitW
  rw [decide_eq_true hv]
  rcases h3 with rfl | rfl | rfl
  · have e : (2 : Int) ^ min ((8 : Int) * 1).toNat IntKind.i64.bits = 256 := by decide
    have e2 : (256 : Int) ^ (1 : Int).toNat = 256 := by decide
    rw [e, e2]
    by_cases h : v < 256
    · rw [decide_eq_true h, show v / 256 = 0 by omega]; rfl
    · rw [decide_eq_false h, bne_iff_ne.mpr (by omega : v / 256 ≠ 0)]; rfl
  · have e : (2 : Int) ^ min ((8 : Int) * 2).toNat IntKind.i64.bits = 65536 := by decide
    have e2 : (256 : Int) ^ (2 : Int).toNat = 65536 := by decide
    rw [e, e2]
    by_cases h : v < 65536
    · rw [decide_eq_true h, show v / 65536 = 0 by omega]; rfl
    · rw [decide_eq_false h, bne_iff_ne.mpr (by omega : v / 65536 ≠ 0)]; rfl
  · have e : (2 : Int) ^ min ((8 : Int) * 4).toNat IntKind.i64.bits = 4294967296 := by decide
    have e2 : (256 : Int) ^ (4 : Int).toNat = 4294967296 := by decide
    rw [e, e2]
    by_cases h : v < 4294967296
    · rw [decide_eq_true h, show v / 4294967296 = 0 by omega]; rfl
    · rw [decide_eq_false h, bne_iff_ne.mpr (by omega : v / 4294967296 ≠ 0)]; rfl
theorem fit_neg (w v : Int) (h : v < 0) : fitW w v = false := by
  unfold fitW
  rw [decide_eq_false (by omega)]; rfl
theorem sz_drop {ws : List Int} {n : Int} (h : szO ws = some n) : ∀ i, i < ws.length → okW (rd ws (i : Nat)) = true := by
  induction ws generalizing n with
  | nil => intro i hi; simp at hi
  | cons w ws ih =>
    intro i hi
    obtain ⟨hw, m, hm, _⟩ := sz_cons h
    cases i with
    | zero => simpa [rd] using hw
    | succ i =>
      have := ih hm i (by simpa using hi)
      rw [rd_at] at this ⊢
      simpa using this
theorem write_loop (ws vs : List Int) (n : Int) (hz : szO ws = some n) (hlen : ws.length = vs.length) (hl : ws.length ≤ 100000000) (d : Nat) : ∀ (i : Nat) (acc : List Int), i + d = vs.length → acc.length ≤ 4 * i →
    Ev (fun k => mould_Write.l0 k ws acc vs (vs.length : Int) (i : Int)) (wrI acc (encO (ws.drop i) (vs.drop i))) := by
  induction d with
  | zero =>
    intro i acc hi ha
    refine Ev.step (f := fun _ => some (strOfNums acc, 0)) (fun k => ?_) ?_
    · simp only [mould_Write.l0]; rw [if_neg (by omega)]
    · rw [List.drop_of_length_le (show vs.length ≤ i by omega), List.drop_of_length_le (show ws.length ≤ i by omega)]
      simp only [encO, wrI, List.append_nil]
      exact Ev.now _
  | succ d ih =>
    intro i acc hi ha
    have hlt : i < ws.length := by omega
    have ho := sz_drop hz i hlt
    rw [drop_rd ws i hlt, drop_rd vs i (by omega)]
    obtain ⟨w, hw⟩ : ∃ w, rd ws i = w := ⟨_, rfl⟩
    obtain ⟨v, hv⟩ : ∃ v, rd vs i = v := ⟨_, rfl⟩
    rw [hw] at ho
    rw [hw, hv]
    have h3 := (okW_iff w).1 ho
    have hj : ∀ (b : Bool), b = !fitW w v → Ev (fun k => mould_Write.j2 k ws acc v w vs (vs.length : Int) (i : Int) b) (wrI acc (encO (w :: ws.drop (i + 1)) (v :: vs.drop (i + 1)))) := by
      intro b hb
      simp only [encO]
      by_cases hf : fitW w v = true
      · rw [hf] at hb
        subst hb
        rw [if_pos hf]
        obtain ⟨m, hm⟩ : ∃ m : Nat, w = m := ⟨w.toNat, by omega⟩
        have hn := ih (i + 1) (acc ++ le w.toNat v) (by omega) (by rw [List.length_append, le_length]; omega)
        have he : wrI (acc ++ le w.toNat v) (encO (ws.drop (i + 1)) (vs.drop (i + 1))) = wrI acc ((encO (ws.drop (i + 1)) (vs.drop (i + 1))).map (le w.toNat v ++ ·)) := by
          cases encO (ws.drop (i + 1)) (vs.drop (i + 1)) with
          | none => rfl
          | some bs => simp only [wrI, Option.map_some, List.append_assoc]
        rw [he] at hn
        refine Ev.step (f := fun k => mould_Write.l1 k ws acc v w vs (vs.length : Int) (i : Int)) (fun k => ?_) ?_
        · simp only [mould_Write.j2]; rw [if_neg (by decide)]
        · refine write_in ws vs _ _ _ w.toNat acc v w (by omega) (by omega) (by omega) ?_
          rw [wrap_in ((i : Int) + 1) (by omega) (by omega), show ((i : Int) + 1) = ((i + 1 : Nat) : Int) by omega]
          exact hn
      · rw [if_neg hf]
        have hf' : fitW w v = false := by simpa using hf
        rw [hf'] at hb
        subst hb
        refine Ev.step (f := fun _ => some (⟨#[]⟩, 3)) (fun k => ?_) (Ev.now _)
        simp only [mould_Write.j2]; rw [if_pos (by decide)]
    by_cases hn : v < 0
    · refine Ev.step (fun k => ?_) (hj true (by rw [fit_neg w v hn]; rfl))
      simp only [mould_Write.l0]
      rw [if_pos (by omega), if_pos (by omega), if_pos (by omega), if_pos (by omega), hv, hw, if_pos hn]
    · refine Ev.step (fun k => ?_) (hj _ (shr_fit v w (by omega) ho))
      simp only [mould_Write.l0]
      rw [if_pos (by omega), if_pos (by omega), if_pos (by omega), if_pos (by omega), hv, hw, if_neg hn, wrap_in (8 * w) (by omega) (by omega), if_pos (by omega)]
/-- mould.Write, whole. -/
def wrAll (ws vs : List Int) : ByteArray × Int := if (szO ws).isSome && ws.length == vs.length then wrI [] (encO ws vs) else (⟨#[]⟩, 1)
theorem write_ev (ws vs : List Int) (hl : ws.length ≤ 100000000) : Ev (fun k => mould_Write.f k ws vs) (wrAll ws vs) := by
  unfold wrAll
  have hs := size_ev ws hl
  refine Ev.bind hs ?_
  cases hz : szO ws with
  | none =>
    rw [szI_none hz]
    refine Ev.step (f := fun _ => some (⟨#[]⟩, 1)) (fun k => ?_) (Ev.now _)
    rw [if_pos (by omega)]
    simp only [mould_Write.j0]; rw [if_pos trivial]
  | some n =>
    have hn := sz_nonneg hz
    rw [szI_some hz]
    by_cases he : ws.length = vs.length
    · rw [if_pos (by simp [he])]
      have hw := write_loop ws vs n hz he hl vs.length 0 [] (by omega) (by simp)
      rw [List.drop_zero, List.drop_zero] at hw
      refine Ev.step (f := fun k => (mould_Size.f k ws).bind fun t => (if 0 ≤ t then (if (t : Int).toNat ≤ 281474976710656 then (mould_Write.l0 k ws (([] : List Int)) vs (vs.length : Int) 0) else (none)) else (none))) (fun k => ?_) ?_
      · rw [if_neg (by omega), show ((ws.length : Int) != (vs.length : Int)) = false by simp [he]]
        simp only [mould_Write.j0]; rw [if_neg (by decide)]
      · refine Ev.bind hs ?_
        rw [szI_some hz]
        refine Ev.congr (fun k => ?_) hw
        rw [if_pos (by omega), if_pos (by omega)]; rfl
    · rw [if_neg (by simp [he])]
      refine Ev.step (f := fun _ => some (⟨#[]⟩, 1)) (fun k => ?_) (Ev.now _)
      rw [if_neg (by omega), show ((ws.length : Int) != (vs.length : Int)) = true by rw [bne_iff_ne]; omega]
      simp only [mould_Write.j0]; rw [if_pos trivial]
theorem rwrite_in (ws vs : List Int) (i : Nat) (hi : i < ws.length) (hl : ws.length ≤ 100000000) (w : Int) (hw : rd ws (i : Int) = w) (hw8 : w ≤ 8) (r : ByteArray × Int) (m : Nat) : ∀ (acc : List Int) (v x : Int), x + m = w → 0 ≤ x → 0 ≤ v → v < 4294967296 → acc.length + m < 140737488355328 →
    Ev (fun k => r1_Write.l0 k ws vs (acc ++ le m v) ((i + 1 : Nat) : Int)) r → Ev (fun k => r1_Write.l1 k ws vs acc (i : Int) v x) r := by
  induction m with
  | zero =>
    intro acc v x hx h0 hv hv2 hla h
    refine Ev.step (fun k => ?_) h
    simp only [r1_Write.l1, le, List.append_nil]
    rw [if_pos (by omega), if_pos (by omega), hw, if_neg (by omega), wrap_in ((i : Int) + 1) (by omega) (by omega)]
    rfl
  | succ m ih =>
    intro acc v x hx h0 hv hv2 hla h
    refine Ev.step (f := fun k => r1_Write.l1 k ws vs (acc ++ [v % 256]) (i : Int) (v / 256) (x + 1)) (fun k => ?_) (ih _ _ _ (by omega) (by omega) (by omega) (by omega) (by rw [List.length_append, List.length_singleton]; omega) ?_)
    · simp only [r1_Write.l1]
      rw [if_pos (by omega), if_pos (by omega), hw, if_pos (by omega), if_pos (by omega), Int.tmod_eq_emod_of_nonneg hv, Int.tdiv_eq_ediv_of_nonneg hv, wrap_in (v / 256) (by omega) (by omega), wrap_in (x + 1) (by omega) (by omega), show v % 256 % 256 = v % 256 by omega]
    · rw [List.append_assoc]; exact h
theorem most_fit (v w : Int) (hv : 0 ≤ v) (ho : okW w = true) : ∃ t, r1_most.f w = some t ∧ decide (v > t) = !fitW w v ∧ (v ≤ t → v < 4294967296) := by
  have h3 := (okW_iff w).1 ho
  unfold r1_most.f fitW
  rw [decide_eq_true hv]
  rcases h3 with rfl | rfl | rfl
  · have e2 : (256 : Int) ^ (1 : Int).toNat = 256 := by decide
    refine ⟨255, by rfl, ?_, by omega⟩
    rw [e2]
    by_cases h : v < 256
    · rw [decide_eq_true h, decide_eq_false (by omega)]; rfl
    · rw [decide_eq_false h, decide_eq_true (by omega)]; rfl
  · have e2 : (256 : Int) ^ (2 : Int).toNat = 65536 := by decide
    refine ⟨65535, by rfl, ?_, by omega⟩
    rw [e2]
    by_cases h : v < 65536
    · rw [decide_eq_true h, decide_eq_false (by omega)]; rfl
    · rw [decide_eq_false h, decide_eq_true (by omega)]; rfl
  · have e2 : (256 : Int) ^ (4 : Int).toNat = 4294967296 := by decide
    refine ⟨4294967295, by rfl, ?_, by omega⟩
    rw [e2]
    by_cases h : v < 4294967296
    · rw [decide_eq_true h, decide_eq_false (by omega)]; rfl
    · rw [decide_eq_false h, decide_eq_true (by omega)]; rfl
theorem rwrite_loop (ws vs : List Int) (n : Int) (hz : szO ws = some n) (hlen : ws.length = vs.length) (hl : ws.length ≤ 100000000) (d : Nat) : ∀ (i : Nat) (acc : List Int), i + d = vs.length → acc.length ≤ 4 * i →
    Ev (fun k => r1_Write.l0 k ws vs acc (i : Int)) (wrI acc (encO (ws.drop i) (vs.drop i))) := by
  induction d with
  | zero =>
    intro i acc hi ha
    refine Ev.step (f := fun _ => some (strOfNums acc, 0)) (fun k => ?_) ?_
    · simp only [r1_Write.l0]; rw [if_neg (by omega)]
    · rw [List.drop_of_length_le (show vs.length ≤ i by omega), List.drop_of_length_le (show ws.length ≤ i by omega)]
      simp only [encO, wrI, List.append_nil]
      exact Ev.now _
  | succ d ih =>
    intro i acc hi ha
    have hlt : i < ws.length := by omega
    have ho := sz_drop hz i hlt
    rw [drop_rd ws i hlt, drop_rd vs i (by omega)]
    obtain ⟨w, hw⟩ : ∃ w, rd ws i = w := ⟨_, rfl⟩
    obtain ⟨v, hv⟩ : ∃ v, rd vs i = v := ⟨_, rfl⟩
    rw [hw] at ho
    rw [hw, hv]
    have h3 := (okW_iff w).1 ho
    have hbad : fitW w v = false → Ev (fun k => r1_Write.j2 k ws vs acc (i : Int) true) (wrI acc (encO (w :: ws.drop (i + 1)) (v :: vs.drop (i + 1)))) := by
      intro hf
      simp only [encO]
      rw [if_neg (by rw [hf]; decide)]
      refine Ev.step (f := fun _ => some (⟨#[]⟩, 3)) (fun k => ?_) (Ev.now _)
      simp only [r1_Write.j2]; rw [if_pos trivial]
    by_cases hn : v < 0
    · refine Ev.step (fun k => ?_) (hbad (fit_neg w v hn))
      simp only [r1_Write.l0]
      rw [if_pos (by omega), if_pos (by omega), if_pos (by omega), hv, if_pos hn]
    · obtain ⟨t, ht, hd, hle⟩ := most_fit v w (by omega) ho
      have h0 : ∀ k, r1_Write.l0 (k + 1) ws vs acc (i : Int) = r1_Write.j2 k ws vs acc (i : Int) (decide (v > t)) := by
        intro k
        simp only [r1_Write.l0]
        rw [if_pos (by omega), if_pos (by omega), if_pos (by omega), hv, hw, if_neg hn, ht]
        rfl
      refine Ev.step h0 ?_
      rw [hd]
      by_cases hf : fitW w v = true
      · rw [hf]
        simp only [encO]
        rw [if_pos hf]
        have hnx := ih (i + 1) (acc ++ le w.toNat v) (by omega) (by rw [List.length_append, le_length]; omega)
        have he : wrI (acc ++ le w.toNat v) (encO (ws.drop (i + 1)) (vs.drop (i + 1))) = wrI acc ((encO (ws.drop (i + 1)) (vs.drop (i + 1))).map (le w.toNat v ++ ·)) := by
          cases encO (ws.drop (i + 1)) (vs.drop (i + 1)) with
          | none => rfl
          | some bs => simp only [wrI, Option.map_some, List.append_assoc]
        rw [he] at hnx
        have hvt : v ≤ t := by
          rw [hf] at hd
          have := of_decide_eq_false hd
          omega
        refine Ev.step (f := fun k => r1_Write.l1 k ws vs acc (i : Int) v 0) (fun k => ?_) (rwrite_in ws vs i hlt hl w hw (by omega) _ w.toNat acc v 0 (by omega) (by omega) (by omega) (hle hvt) (by omega) hnx)
        simp only [r1_Write.j2]
        rw [if_neg (by decide), if_pos (by omega), if_pos (by omega), hv]
      · have hf' : fitW w v = false := by simpa using hf
        rw [hf']
        exact hbad hf'
theorem rwrite_ev (ws vs : List Int) (hl : ws.length ≤ 100000000) : Ev (fun k => r1_Write.f k ws vs) (wrAll ws vs) := by
  unfold wrAll
  refine Ev.bind (rsize_ev ws hl) ?_
  cases hz : szO ws with
  | none =>
    rw [szI_none hz]
    refine Ev.step (f := fun _ => some (⟨#[]⟩, 1)) (fun k => ?_) (Ev.now _)
    rw [if_pos (by omega)]
    simp only [r1_Write.j0]; rw [if_pos trivial]
  | some n =>
    have hn := sz_nonneg hz
    rw [szI_some hz]
    by_cases he : ws.length = vs.length
    · rw [if_pos (by simp [he])]
      have hw := rwrite_loop ws vs n hz he hl vs.length 0 [] (by omega) (by simp)
      rw [List.drop_zero, List.drop_zero] at hw
      refine Ev.step (fun k => ?_) hw
      rw [if_neg (by omega), show ((ws.length : Int) != (vs.length : Int)) = false by simp [he]]
      simp only [r1_Write.j0]; rw [if_neg (by decide)]; rfl
    · rw [if_neg (by simp [he])]
      refine Ev.step (f := fun _ => some (⟨#[]⟩, 1)) (fun k => ?_) (Ev.now _)
      rw [if_neg (by omega), show ((ws.length : Int) != (vs.length : Int)) = true by rw [bne_iff_ne]; omega]
      simp only [r1_Write.j0]; rw [if_pos trivial]
/-! ### the reference's Read -/
theorem repeat_zero (n : Nat) : ∀ m, m = n → (⟨(Lib.repeatL [0] m).toArray⟩ : ByteArray) = strOfNums (List.replicate n 0) := by
  intro m hm
  subst hm
  unfold strOfNums
  rw [List.map_replicate]
  congr 2
  induction m with
  | zero => rfl
  | succ m ih => simp [Lib.repeatL, List.replicate_succ] at ih ⊢; exact ih
theorem fits_ev (a : ByteArray) (n : Int) (h0 : 0 ≤ n) (h1 : n ≤ 1000) : Ev (fun k => mould_fits.f k a n) (if (a.size : Int) > n then 3 else 0) := by
  refine Ev.step (f := fun _ => some (if (a.size : Int) > n then 3 else 0)) (fun k => ?_) (Ev.now _)
  simp only [mould_fits.f, mould_fits.j0]
  rw [if_neg (by omega), decide_eq_false (by omega), if_neg (by decide)]
  by_cases h : (a.size : Int) > n
  · rw [if_pos h, if_pos h]
  · rw [if_neg h, if_neg h]
/-- Pad at a length that may be, of a text that fits. -/
theorem pad_ev (a : ByteArray) (n : Nat) (h1 : n ≤ 1000) (ha : a.size ≤ n) : Ev (fun k => mould_Pad.f k a (n : Int)) (a ++ strOfNums (List.replicate (n - a.size) 0), 0) := by
  refine Ev.bind (fits_ev a n (by omega) (by omega)) ?_
  have h3 : ¬ ((a.size : Int) > (n : Int)) := by omega
  simp only [h3, if_false]
  refine Ev.congr (fun k => ?_) (Ev.now _)
  rw [if_pos trivial, wrap_in _ (by omega) (by omega)]
  have hr : strings_Repeat.f ⟨#[0]⟩ ((n : Int) - (a.size : Int)) = some (strOfNums (List.replicate (n - a.size) 0)) := by
    unfold strings_Repeat.f
    have hsz : (⟨#[0]⟩ : ByteArray).size = 1 := rfl
    rw [if_pos (by omega), if_pos (by omega), hsz, if_pos (by omega)]
    congr 1
    exact repeat_zero (n - a.size) _ (by omega)
  rw [hr]
  simp only [Option.bind_some]
  rw [if_pos (by rw [strOfNums_size, List.length_replicate]; omega)]
end Go.Proofs.Ytgigoogekimgkaa.Mould
