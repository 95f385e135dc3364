/- The law CardsBack: a card that may be is read back from its bytes; what is read is just what is written. Conditions: a row of numbers no longer than a machine holds. -/
import Derived.Test.YtgigoogekimgkaaPureWrite
import Derived.Test.YtgigoogekimgkaaBRead
import Derived.Test.YtgigoogekimgkaaGCrdx11
namespace Go.Proofs.Ytgigoogekimgkaa.Pure
open Go.RowKit Go.Proofs.Ytgigoogekimgkaa.GCrd Go.Proofs.YtgigoogekimgkaaW.PrintWords Go.Proofs.YtgigoogekimgkaaW.PrintLast Go.Proofs.YtgigoogekimgkaaW.PrintMore Go.Proofs.Ytgigoogekimgkaa.Plain Go.Proofs.Ytgigoogekimgkaa.Mould
/-- What Write answers. -/
noncomputable def WR (F K L S : Int) (P : List Int) (S1 D : Int) (R : List SP) (O : Int) : ByteArray × Int :=
  if rt F K L S P S1 D R O = true then (if nn F K L S P S1 D R O = true then out [] else out (headB F K L S ++ tailB F P S1 D R O)) else ((⟨#[]⟩ : ByteArray), 1)
theorem str_bytes (bs : List Int) (h : ∀ b ∈ bs, 0 ≤ b ∧ b < 256) : bytesOf (strOfNums bs) = bs := by
  unfold bytesOf
  rw [strOfNums_data, List.map_map]
  conv => rhs; rw [← List.map_id bs]
  apply List.map_congr_left
  intro b hb
  have := h b hb
  show (((UInt8.ofNat b.toNat).toNat : Nat) : Int) = b
  rw [UInt8.toNat_ofNat']
  omega
abbrev Tup := Int × Int × Int × Int × List Int × Int × Int × List SP × Int × Int
def badT : Tup := (0, 0, 0, 0, [], 0, 0, [], 0, 15)
open Classical in
/-- What Read answers of a card that was decoded. -/
noncomputable def rdR (s : ByteArray) (F K L S : Int) (P : List Int) (S1 D : Int) (R : List SP) (O : Int) : Tup :=
  if (WR F K L S P S1 D R O).2 = 0 ∧ (WR F K L S P S1 D R O).1.toList = s.toList then (F, K, L, S, P, S1, D, R, O, 0) else badT
theorem read_done (s : ByteArray) (F K L S : Int) (P : List Int) (S1 D : Int) (R : List SP) (O : Int) (hP : P.length + 3 < 17592186044416) (hR : R.length ≤ 9223372036854775807) :
    Ev (fun k => (cards_Write.f k F K L S P S1 D R O).bind fun b => if b.2 = 0 then (if b.1.toList = s.toList then some (F, K, L, S, P, S1, D, R, O, (0 : Int)) else some badT) else some badT) (rdR s F K L S P S1 D R O) := by
  refine Ev.bind (write_ev9 F K L S P S1 D R O hP hR) ?_
  show Ev (fun _ => if (WR F K L S P S1 D R O).2 = 0 then (if (WR F K L S P S1 D R O).1.toList = s.toList then some (F, K, L, S, P, S1, D, R, O, (0 : Int)) else some badT) else some badT) _
  unfold rdR
  by_cases h2 : (WR F K L S P S1 D R O).2 = 0
  · by_cases h1 : (WR F K L S P S1 D R O).1.toList = s.toList
    · rw [if_pos h2, if_pos h1, if_pos ⟨h2, h1⟩]; exact Ev.now _
    · rw [if_pos h2, if_neg h1, if_neg (fun h => h1 h.2)]; exact Ev.now _
  · rw [if_neg h2, if_neg (fun h => h2 h.1)]; exact Ev.now _
theorem read_bad (s : ByteArray) (h : ¬ (s.size : Int) = 32) : Ev (fun k => cards_Read.f k s) badT := by
  refine Ev.congr (f := fun _ => some badT) (fun k => ?_) (Ev.now _)
  unfold cards_Read.f cards_Read1.f
  rw [if_neg (fun hh => h hh.1), if_neg h]
  rfl
theorem read_zero (s : ByteArray) (h : (s.size : Int) = 32) (h1 : ¬ bt s 0 = 1) (h2 : ¬ bt s 0 = 2) : Ev (fun k => cards_Read.f k s) (rdR s 0 0 0 0 [] 0 0 [] 0) := by
  refine Ev.congr (fun k => ?_) (read_done s 0 0 0 0 [] 0 0 [] 0 (by simp) (by simp))
  unfold cards_Read.f
  rw [if_pos ⟨h, h1, h2⟩]
  congr 1
  funext b
  by_cases h2 : b.2 = 0
  · by_cases h1 : b.1.toList = s.toList
    · rw [if_pos ⟨h2, h1⟩, if_pos h2, if_pos h1]
    · rw [if_neg (fun h => h1 h.2), if_pos h2, if_neg h1]; rfl
  · rw [if_neg (fun h => h2 h.1), if_neg h2]; rfl
theorem read_mould (ws : List Int) (n : Int) (s : ByteArray) (hl : ws.length ≤ 100) (h : (s.size : Int) = 32) (hz : szO ws = some n) (hn : n ≤ 32) : Ev (fun k => mould_Read.f k ws s) (dec ws (bytesOf s), 0) := by
  have := read_ev ws s (by omega) (by omega)
  unfold rdAll at this
  rw [hz] at this
  simp only at this
  rwa [if_neg (by omega)] at this
def ws1 : List Int := [1, 1, 2, 4] ++ List.replicate 6 2
def ws2 : List Int := ([1, 1, 2, 4] ++ [1]) ++ List.replicate 10 2
theorem dec_first (ws : List Int) (s : ByteArray) (h : (s.size : Int) = 32) : rd (dec (1 :: ws) (bytesOf s)) 0 = bt s 0 := by
  rw [← rd_bytesOf]
  have hl := bytesOf_length s
  cases hb : bytesOf s with
  | nil => rw [hb] at hl; simp at hl; omega
  | cons b r =>
    show unle ([b] : List Int) = b
    simp [unle]
theorem card_one (vs : List Int) (hl : vs.length = 10) (h1 : rd vs 0 = 1) : cards_card.f vs = some (rd vs 0, rd vs 1, rd vs 2, rd vs 3, (vs.drop 4).take 4, rd (vs.drop 4) 4, rd (vs.drop 4) 5, [], 0) := by
  have hd : (vs.drop 4).length = 6 := by rw [List.length_drop]; omega
  unfold cards_card.f cards_card1.f
  rw [if_pos h1, if_pos (by omega), if_pos (by omega), if_pos (by omega), if_pos (by omega), if_pos (by omega), if_pos h1, if_pos (by omega)]
  unfold sl_Cl.f
  rw [if_pos (by rw [List.length_take]; omega), Option.bind_some, if_pos (by omega), if_pos (by omega)]
theorem card_two (vs : List Int) (hl : vs.length = 15) (h1 : ¬ rd vs 0 = 1) (h4 : 0 ≤ rd vs 4) : cards_card.f vs = some (rd vs 0, rd vs 1, rd vs 2, rd vs 3, [], 0, 0, (List.range (min (rd vs 4) 3).toNat).map (cards_card2.spanAt vs), rd vs 14) := by
  unfold cards_card.f
  rw [if_neg h1, if_pos hl, if_pos h4]
theorem wrap_bt (s : ByteArray) : wrap64 (bt s 0) = bt s 0 := by
  have := bt_range s 0
  rw [wrap_in _ (by omega) (by omega)]
theorem read_one (s : ByteArray) (h : (s.size : Int) = 32) (h1 : bt s 0 = 1) (vs : List Int) (hv : vs = dec ws1 (bytesOf s)) :
    Ev (fun k => cards_Read.f k s) (rdR s (rd vs 0) (rd vs 1) (rd vs 2) (rd vs 3) ((vs.drop 4).take 4) (rd (vs.drop 4) 4) (rd (vs.drop 4) 5) [] 0) := by
  have hl : vs.length = 10 := by rw [hv, dec_length]; rfl
  have h0 : rd vs 0 = 1 := by rw [hv]; exact (dec_first _ s h).trans h1
  have hP : ((vs.drop 4).take 4).length + 3 < 17592186044416 := by rw [List.length_take, List.length_drop]; omega
  unfold cards_Read.f
  refine Ev.congr (f := fun k => cards_Read1.f k s) (fun k => if_neg (fun hh => hh.2.1 h1)) ?_
  unfold cards_Read1.f
  refine Ev.congr (fun k => by rw [if_pos h, if_pos (by omega), wrap_bt, h1, moulds_one, Option.bind_some, if_pos (by simp)]) ?_
  have hm := read_mould ws1 20 s (by decide) h (by decide) (by decide)
  rw [← hv] at hm
  refine Ev.bind hm ?_
  refine Ev.congr (fun k => by rw [if_pos rfl, card_one vs hl h0, Option.bind_some]) ?_
  exact read_done s _ _ _ _ _ _ _ _ _ hP (by simp)
theorem dec_nonneg : ∀ (ws bs : List Int), (∀ b ∈ bs, 0 ≤ b ∧ b < 256) → ∀ i, 0 ≤ rd (dec ws bs) (i : Nat)
  | [], bs, _, i => by rw [rd_at]; simp [dec]
  | w :: ws, bs, h, 0 => by
    rw [rd_at]
    exact (unle_bound _ fun b hb => h b (List.mem_of_mem_take hb)).1
  | w :: ws, bs, h, i + 1 => by
    have := dec_nonneg ws (bs.drop w.toNat) (fun b hb => h b (List.mem_of_mem_drop hb)) i
    rw [rd_at] at this ⊢
    exact this
theorem read_two (s : ByteArray) (h : (s.size : Int) = 32) (h1 : bt s 0 = 2) (vs : List Int) (hv : vs = dec ws2 (bytesOf s)) :
    Ev (fun k => cards_Read.f k s) (rdR s (rd vs 0) (rd vs 1) (rd vs 2) (rd vs 3) [] 0 0 ((List.range (min (rd vs 4) 3).toNat).map (cards_card2.spanAt vs)) (rd vs 14)) := by
  have hl : vs.length = 15 := by rw [hv, dec_length]; rfl
  have h0 : rd vs 0 = 2 := by rw [hv]; exact (dec_first _ s h).trans h1
  have h4 : 0 ≤ rd vs 4 := by rw [hv]; exact dec_nonneg ws2 _ (bytesOf_byte s) 4
  unfold cards_Read.f
  refine Ev.congr (f := fun k => cards_Read1.f k s) (fun k => if_neg (fun hh => hh.2.2 h1)) ?_
  unfold cards_Read1.f
  refine Ev.congr (fun k => by rw [if_pos h, if_pos (by omega), wrap_bt, h1, moulds_two, Option.bind_some, if_pos (by simp)]) ?_
  have hm := read_mould ws2 29 s (by decide) h (by decide) (by decide)
  rw [← hv] at hm
  refine Ev.bind hm ?_
  refine Ev.congr (fun k => by rw [if_pos rfl, card_two vs hl (by omega) h4, Option.bind_some]) ?_
  exact read_done s _ _ _ _ _ _ _ _ _ (by simp) (by rw [List.length_map, List.length_range]; omega)
/-- Read, of any bytes: what is read is written so. -/
theorem read_any (s : ByteArray) : ∃ (F K L S : Int) (P : List Int) (S1 D : Int) (R : List SP) (O e : Int), Ev (fun k => cards_Read.f k s) (F, K, L, S, P, S1, D, R, O, e) ∧ P.length + 3 < 17592186044416 ∧ R.length ≤ 9223372036854775807 ∧
    (e = 0 → (WR F K L S P S1 D R O).2 = 0 ∧ (WR F K L S P S1 D R O).1.toList = s.toList) := by
  have bad : Ev (fun k => cards_Read.f k s) badT → ∃ (F K L S : Int) (P : List Int) (S1 D : Int) (R : List SP) (O e : Int), Ev (fun k => cards_Read.f k s) (F, K, L, S, P, S1, D, R, O, e) ∧ P.length + 3 < 17592186044416 ∧ R.length ≤ 9223372036854775807 ∧
      (e = 0 → (WR F K L S P S1 D R O).2 = 0 ∧ (WR F K L S P S1 D R O).1.toList = s.toList) := fun h => ⟨_, _, _, _, _, _, _, _, _, _, h, by simp, by simp, fun h => by cases h⟩
  have go : ∀ (F K L S : Int) (P : List Int) (S1 D : Int) (R : List SP) (O : Int), P.length + 3 < 17592186044416 → R.length ≤ 9223372036854775807 → Ev (fun k => cards_Read.f k s) (rdR s F K L S P S1 D R O) → ∃ (F K L S : Int) (P : List Int) (S1 D : Int) (R : List SP) (O e : Int), Ev (fun k => cards_Read.f k s) (F, K, L, S, P, S1, D, R, O, e) ∧ P.length + 3 < 17592186044416 ∧ R.length ≤ 9223372036854775807 ∧
      (e = 0 → (WR F K L S P S1 D R O).2 = 0 ∧ (WR F K L S P S1 D R O).1.toList = s.toList) := by
    intro F K L S P S1 D R O hP hR h
    by_cases hc : (WR F K L S P S1 D R O).2 = 0 ∧ (WR F K L S P S1 D R O).1.toList = s.toList
    · unfold rdR at h
      rw [if_pos hc] at h
      exact ⟨F, K, L, S, P, S1, D, R, O, 0, h, hP, hR, fun _ => hc⟩
    · unfold rdR at h
      rw [if_neg hc] at h
      exact bad h
  by_cases h : (s.size : Int) = 32
  · by_cases h1 : bt s 0 = 1
    · exact go _ _ _ _ _ _ _ _ _ (by rw [List.length_take, List.length_drop]; omega) (by simp) (read_one s h h1 _ rfl)
    · by_cases h2 : bt s 0 = 2
      · exact go _ _ _ _ _ _ _ _ _ (by simp) (by rw [List.length_map, List.length_range]; omega) (read_two s h h2 _ rfl)
      · exact go _ _ _ _ _ _ _ _ _ (by simp) (by simp) (read_zero s h h1 h2)
  · exact bad (read_bad s h)
end Go.Proofs.Ytgigoogekimgkaa.Pure
