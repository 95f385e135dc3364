/- The law CardsBack: a card that may be is read back from its bytes; what is read is just what is written. Conditions: a row of numbers no longer than a machine holds. -/
import Derived.Test.YtegdoodjajpnhaaBBack
namespace Go.Proofs.Ytegdoodjajpnhaa.Pure
open Go.RowKit Go.Proofs.Ytegdoodjajpnhaa.GCbk Go.Proofs.YtegdoodjajpnhaaW.PrintWords Go.Proofs.YtegdoodjajpnhaaW.PrintLast Go.Proofs.YtegdoodjajpnhaaW.PrintMore Go.Proofs.Ytegdoodjajpnhaa.Plain Go.Proofs.Ytegdoodjajpnhaa.Mould
section
variable (F K L S : Int) (P : List Int) (S1 D : Int) (R : List SP) (O : Int)
theorem enc_card (hr : rt F K L S P S1 D R O = true) (hn : nn F K L S P S1 D R O = false) :
    (F = 1 ∧ P.length = 4 ∧ R = [] ∧ O = 0 ∧ encO ws1 ([1, K, L, S] ++ (P ++ [S1, D])) = some (headB F K L S ++ tailB F P S1 D R O)) ∨
    (F = 2 ∧ P = [] ∧ S1 = 0 ∧ D = 0 ∧ R.length ≤ 3 ∧ encO ws2 (([2, K, L, S] ++ [(R.length : Int)]) ++ (sp3 R 0 ++ (sp3 R 1 ++ (sp3 R 2 ++ [O])))) = some (headB F K L S ++ tailB F P S1 D R O)) := by
  have hr0 := hr
  unfold rt at hr0
  rw [hn, Bool.false_or, Bool.and_eq_true, Bool.or_eq_true] at hr0
  obtain ⟨hK, hL, hS, hF⟩ := is_of F K L S P S1 D R O hr hn
  have eh : F = 1 ∨ F = 2 → encO [1, 1, 2, 4] [F, K, L, S] = some (headB F K L S) := fun h => enc_head F K L S (by omega) (by omega) (sm_iff.2 (by omega)) (by omega)
  rcases hF with ⟨rfl, hP4, hsm⟩ | ⟨rfl, hR3, hsp, hO⟩
  · refine Or.inl ⟨rfl, hP4, ?_⟩
    have h2 : R = [] ∧ O = 0 := by
      rcases hr0.2 with h | h
      · simp only [Bool.and_eq_true, decide_eq_true_eq] at h
        exact ⟨List.eq_nil_of_length_eq_zero (by omega), by simpa using h.2.2.2.2⟩
      · simp at h
    refine ⟨h2.1, h2.2, ?_⟩
    have hl6 : (P ++ [S1, D]).length = 6 := by rw [List.length_append, hP4]; rfl
    unfold ws1
    rw [enc_app [1, 1, 2, 4] [1, K, L, S] _ _ rfl, eh (Or.inl rfl), Option.bind_some]
    have := le_two_all hsm
    rw [hl6] at this
    rw [this, tailB, if_pos rfl]
    rfl
  · refine Or.inr ⟨rfl, ?_⟩
    have h2 : P = [] ∧ S1 = 0 ∧ D = 0 := by
      rcases hr0.2 with h | h
      · simp at h
      · simp only [Bool.and_eq_true, decide_eq_true_eq] at h
        obtain ⟨_, _, _, _, _, h6, h7, h8⟩ := h
        exact ⟨List.eq_nil_of_length_eq_zero (by omega), h7, by simpa using h8⟩
    refine ⟨h2.1, h2.2.1, h2.2.2, hR3, ?_⟩
    have hl10 : (sp3 R 0 ++ (sp3 R 1 ++ (sp3 R 2 ++ [O]))).length = 10 := by simp [sp3_len]
    have hsm : ∀ v ∈ sp3 R 0 ++ (sp3 R 1 ++ (sp3 R 2 ++ [O])), sm v = true := by
      intro v hv
      simp only [List.mem_append, List.mem_singleton] at hv
      rcases hv with h | h | h | h
      · exact sp3_sm R hsp 0 v h
      · exact sp3_sm R hsp 1 v h
      · exact sp3_sm R hsp 2 v h
      · rw [h]; exact hO
    unfold ws2
    rw [enc_app ([1, 1, 2, 4] ++ [1]) ([2, K, L, S] ++ [(R.length : Int)]) _ _ rfl, enc_app [1, 1, 2, 4] [2, K, L, S] _ _ rfl, eh (Or.inr rfl)]
    have e1 : encO [1] [(R.length : Int)] = some (le 1 (R.length : Int)) := by
      simp only [encO, fit1 (show (0 : Int) ≤ (R.length : Int) by omega) (by omega), if_true, Option.map_some]
      simp
    have := le_two_all hsm
    rw [hl10] at this
    rw [this, e1, tailB, if_neg (by decide)]
    simp [List.append_assoc]
end
theorem spans_back (K L S : Int) (R : List SP) (O : Int) (h : R.length ≤ 3) (vs : List Int) (hv : vs = (([2, K, L, S] ++ [(R.length : Int)]) ++ (sp3 R 0 ++ (sp3 R 1 ++ (sp3 R 2 ++ [O]))))) :
    rd vs 0 = 2 ∧ rd vs 1 = K ∧ rd vs 2 = L ∧ rd vs 3 = S ∧ (List.range (min (rd vs 4) 3).toNat).map (cards_card2.spanAt vs) = R ∧ rd vs 14 = O := by
  match R, h with
  | [], _ => subst hv; exact ⟨rfl, rfl, rfl, rfl, rfl, rfl⟩
  | [a], _ => subst hv; exact ⟨rfl, rfl, rfl, rfl, rfl, rfl⟩
  | [a, b], _ => subst hv; exact ⟨rfl, rfl, rfl, rfl, rfl, rfl⟩
  | [a, b, c], _ => subst hv; exact ⟨rfl, rfl, rfl, rfl, rfl, rfl⟩
theorem zeros_byte (n : Nat) : ∀ b ∈ List.replicate n (0 : Int), 0 ≤ b ∧ b < 256 := by
  intro b hb
  obtain rfl := (List.mem_replicate.1 hb).2
  omega
theorem back_ev (F K L S : Int) (P : List Int) (S1 D : Int) (R : List SP) (O : Int) (hr : rt F K L S P S1 D R O = true) : Ev (fun k => cards_Read.f k (WR F K L S P S1 D R O).1) (F, K, L, S, P, S1, D, R, O, 0) := by
  cases hn : nn F K L S P S1 D R O with
  | true =>
    have hz : F = 0 ∧ K = 0 ∧ L = 0 ∧ S = 0 ∧ P = [] ∧ S1 = 0 ∧ D = 0 ∧ R = [] ∧ O = 0 := by
      by_cases h : F = 0 ∧ K = 0 ∧ L = 0 ∧ S = 0 ∧ P = [] ∧ S1 = 0 ∧ D = 0 ∧ R = [] ∧ O = 0
      · exact h
      · unfold nn at hn; rw [T_neg h] at hn; cases hn
    obtain ⟨rfl, rfl, rfl, rfl, rfl, rfl, rfl, rfl, rfl⟩ := hz
    have hw : WR 0 0 0 0 [] 0 0 [] 0 = (strOfNums (List.replicate 32 0), 0) := by
      unfold WR
      rw [if_pos hr, if_pos hn]
      rfl
    have hs : ((strOfNums (List.replicate 32 0)).size : Int) = 32 := by rw [strOfNums_size]; rfl
    have hb : bt (strOfNums (List.replicate 32 0)) 0 = 0 := by
      rw [← rd_bytesOf, str_bytes _ (zeros_byte 32)]
      rfl
    have := read_zero (strOfNums (List.replicate 32 0)) hs (by omega) (by omega)
    unfold rdR at this
    rw [if_pos (by rw [hw]; exact ⟨rfl, rfl⟩)] at this
    rw [hw]
    exact this
  | false =>
    have hw : WR F K L S P S1 D R O = out (headB F K L S ++ tailB F P S1 D R O) := by
      unfold WR
      rw [if_pos hr, hn, if_neg (by decide)]
    have key : ∀ (ws vs : List Int) (n : Int), szO ws = some n → n ≤ 32 → ws.length = vs.length → encO ws vs = some (headB F K L S ++ tailB F P S1 D R O) →
        (((WR F K L S P S1 D R O).1.size : Int) = 32 ∧ dec ws (bytesOf (WR F K L S P S1 D R O).1) = vs) := by
      intro ws vs n hz hn hl he
      have hlen := enc_length hz hl he
      rw [hw]
      unfold out
      refine ⟨by rw [strOfNums_size, List.length_append, List.length_replicate]; omega, ?_⟩
      rw [str_bytes _ (fun b hb => by
        rcases List.mem_append.1 hb with h | h
        · exact enc_bytes _ _ _ he b h
        · exact zeros_byte _ b h)]
      exact dec_enc _ hl he
    have w2 : (WR F K L S P S1 D R O).2 = 0 := by rw [hw]; rfl
    rcases enc_card F K L S P S1 D R O hr hn with ⟨hF, hP, hR, hO, he⟩ | ⟨hF, hP, hS, hD, hR, he⟩
    · obtain ⟨h32, hd⟩ := key ws1 _ 20 (by decide) (by decide) (by simp [ws1, hP]) he
      have hb : bt (WR F K L S P S1 D R O).1 0 = 1 := by
        rw [← dec_first ([1, 2, 4] ++ List.replicate 6 2) _ h32]
        show rd (dec ws1 _) 0 = 1
        rw [hd]
        rfl
      have := read_one _ h32 hb _ hd.symm
      have e1 : ((([1, K, L, S] ++ (P ++ [S1, D])).drop 4).take 4) = P := by
        show (P ++ [S1, D]).take 4 = P
        rw [List.take_append_of_le_length (by omega), List.take_of_length_le (by omega)]
      have e2 : rd (([1, K, L, S] ++ (P ++ [S1, D])).drop 4) 4 = S1 := by
        show rd (P ++ [S1, D]) ((4 : Nat) : Int) = S1
        rw [rd_at, List.getD_eq_getElem?_getD, List.getElem?_append_right (by omega), hP]
        rfl
      have e3 : rd (([1, K, L, S] ++ (P ++ [S1, D])).drop 4) 5 = D := by
        show rd (P ++ [S1, D]) ((5 : Nat) : Int) = D
        rw [rd_at, List.getD_eq_getElem?_getD, List.getElem?_append_right (by omega), hP]
        rfl
      rw [e1, e2, e3] at this
      have this2 : Ev (fun k => cards_Read.f k (WR F K L S P S1 D R O).1) (rdR (WR F K L S P S1 D R O).1 1 K L S P S1 D [] 0) := this
      subst hF hR hO
      unfold rdR at this2
      rw [if_pos ⟨w2, rfl⟩] at this2
      exact this2
    · obtain ⟨h32, hd⟩ := key ws2 _ 29 (by decide) (by decide) (by simp [ws2, sp3_len]) he
      obtain ⟨v0, v1, v2, v3, vR, vO⟩ := spans_back K L S R O hR _ rfl
      have hb : bt (WR F K L S P S1 D R O).1 0 = 2 := by
        rw [← dec_first (([1, 2, 4] ++ [1]) ++ List.replicate 10 2) _ h32]
        show rd (dec ws2 _) 0 = 2
        rw [hd]
        exact v0
      have := read_two _ h32 hb _ hd.symm
      rw [v0, v1, v2, v3, vR, vO] at this
      subst hF hP hS hD
      unfold rdR at this
      rw [if_pos ⟨w2, rfl⟩] at this
      exact this
theorem lives_ev : Ev (fun k => wainwrightlaw09_lives.f k) true := Ev.of (k := 100) wainwrightlaw09_lives.mono (by kernel_rfl)
theorem end_ev (s : ByteArray) : Ev (fun k => wainwrightlaw09_CardsBack.j0 k s false) true := by
  obtain ⟨F, K, L, S, P, S1, D, R, O, e, hrd, hP, hR, hok⟩ := read_any s
  refine Ev.step (f := fun k => (cards_Read.f k s).bind fun b => (cards_Write.f k b.1 b.2.1 b.2.2.1 b.2.2.2.1 b.2.2.2.2.1 b.2.2.2.2.2.1 b.2.2.2.2.2.2.1 b.2.2.2.2.2.2.2.1 b.2.2.2.2.2.2.2.2.1).bind fun c => (if b.2.2.2.2.2.2.2.2.2 = 0 then (if c.2 = 0 then (some (c.1.toList == s.toList)) else (some false)) else (some true))) (fun k => ?_) ?_
  · simp only [wainwrightlaw09_CardsBack.j0]
    rw [if_neg (by decide)]
  · refine Ev.bind hrd (Ev.bind (write_ev9 F K L S P S1 D R O hP hR) ?_)
    show Ev (fun _ => if e = 0 then (if (WR F K L S P S1 D R O).2 = 0 then (some ((WR F K L S P S1 D R O).1.toList == s.toList)) else (some false)) else (some true)) true
    by_cases he : e = 0
    · obtain ⟨h2, h1⟩ := hok he
      rw [if_pos he, if_pos h2, h1, beq_self_eq_true]
      exact Ev.now _
    · rw [if_neg he]
      exact Ev.now _
theorem CardsBack (F K L S : Int) (P : List Int) (S1 D : Int) (R : List S48) (O : Int) (s : ByteArray)
    (hP : P.length + 3 < 17592186044416) (hR : R.length ≤ 9223372036854775807) : ∃ k, wainwrightlaw09_CardsBack.f k F K L S P S1 D R O s = some true := by
  apply Ev.rounds (g := fun k => wainwrightlaw09_CardsBack.f k F K L S P S1 D R O s)
  unfold wainwrightlaw09_CardsBack.f
  refine Ev.bind lives_ev ?_
  simp only [if_true]
  refine Ev.bind (a := WR F K L S P S1 D R O) (write_ev9 F K L S P S1 D R O hP hR) ?_
  cases hr : rt F K L S P S1 D R O with
  | true =>
    have w2 : (WR F K L S P S1 D R O).2 = 0 := by
      unfold WR
      rw [if_pos hr]
      split <;> rfl
    refine Ev.bind (back_ev F K L S P S1 D R O hr) ?_
    simp only [w2, if_true]
    refine Ev.bind (same_ev F K L S P S1 D R O F K L S P S1 D R O (by omega) hR) ?_
    rw [T_pos ⟨rfl, rfl, rfl, rfl, rfl, rfl, rfl, rfl, rfl⟩]
    exact end_ev s
  | false =>
    have hw : WR F K L S P S1 D R O = ((⟨#[]⟩ : ByteArray), 1) := by
      unfold WR
      rw [hr, if_neg (by decide)]
    rw [hw]
    refine Ev.bind (read_bad (⟨#[]⟩ : ByteArray) (by decide)) ?_
    refine Ev.congr (fun k => by rw [if_neg (by decide)]) (end_ev s)
theorem CardsBack_walk (a0 a1 a2 a3 : Int) (A4 : Option Addr) (c4 : Nat) (l4 : List Int) (a5 a6 : Int) (A7 : Option Addr) (c7 : Nat) (l7 : List S48) (a8 : Int) (s : ByteArray) (w : World)
    (h4 : Kd.C (Kd.int .i64) w A4 l4.length l4) (i4 : l4.length ≤ c4) (h7 : Kd.C k48 w A7 l7.length l7) (i7 : l7.length ≤ c7) (z4 : l4.length + 3 < 17592186044416) (_ : s.size ≤ 140737488351232) :
    Calls Try.prog 5 #[.agg #[.int .i64 a0, .int .i64 a1, .int .i64 a2, .int .i64 a3, .slice A4 l4.length c4, .int .i64 a5, .int .i64 a6, .slice A7 l7.length c7, .int .i64 a8], .string s] w fun e w' => e = .returned (.bool true) ∧ Below w.heap.size w w' := by
  obtain ⟨k, h⟩ := CardsBack a0 a1 a2 a3 l4 a5 a6 l7 a8 s z4 h7.2.1
  exact wainwrightlaw09_CardsBack.calls k a0 a1 a2 a3 A4 c4 l4 a5 a6 A7 c7 l7 a8 s true w h4 i4 h7 i7 h
end Go.Proofs.Ytegdoodjajpnhaa.Pure
