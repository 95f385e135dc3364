/- A card's bytes, in plain words, and that the program's answer and the document's are just these. Conditions: rows no longer than a machine holds. -/
import Derived.Test.YtgigoogekimgkaaPureRight
import Derived.Test.YtgigoogekimgkaaMouldC
import Derived.Test.YtgigoogekimgkaaGCrdx8
import Derived.Test.YtgigoogekimgkaaGCrdx7
import Derived.Test.YtgigoogekimgkaaGCrdx16
namespace Go.Proofs.Ytgigoogekimgkaa.Pure
open Go.RowKit Go.Proofs.Ytgigoogekimgkaa.GCrd Go.Proofs.YtgigoogekimgkaaW.PrintWords Go.Proofs.YtgigoogekimgkaaW.PrintLast Go.Proofs.YtgigoogekimgkaaW.PrintMore Go.Proofs.Ytgigoogekimgkaa.Plain Go.Proofs.Ytgigoogekimgkaa.Mould
theorem str_app (a b : List Int) : strOfNums a ++ strOfNums b = strOfNums (a ++ b) := by
  apply ByteArray.ext
  rw [ByteArray.data_append]
  unfold strOfNums
  simp
theorem str_nil (a : List Int) : (⟨#[]⟩ : ByteArray) ++ strOfNums a = strOfNums a := by
  apply ByteArray.ext
  rw [ByteArray.data_append]
  simp
theorem sm_iff {v : Int} : sm v = true ↔ 0 ≤ v ∧ v ≤ 65535 := by unfold sm; rw [Bool.and_eq_true, decide_eq_true_iff, decide_eq_true_iff]
theorem fit1 {v : Int} (h0 : 0 ≤ v) (h : v ≤ 255) : fitW 1 v = true := by
  unfold fitW
  rw [Bool.and_eq_true, decide_eq_true_iff, decide_eq_true_iff]
  exact ⟨h0, by show v < 256 ^ 1; omega⟩
theorem fit2 {v : Int} (h : sm v = true) : fitW 2 v = true := by
  have h := sm_iff.1 h
  unfold fitW
  rw [Bool.and_eq_true, decide_eq_true_iff, decide_eq_true_iff]
  exact ⟨h.1, by show v < 256 ^ 2; omega⟩
theorem fit4 {v : Int} (h0 : 0 ≤ v) (h : v ≤ 65535) : fitW 4 v = true := by
  unfold fitW
  rw [Bool.and_eq_true, decide_eq_true_iff, decide_eq_true_iff]
  exact ⟨h0, by show v < 256 ^ 4; omega⟩
theorem enc_app : ∀ (ws1 vs1 ws2 vs2 : List Int), ws1.length = vs1.length → encO (ws1 ++ ws2) (vs1 ++ vs2) = (encO ws1 vs1).bind fun a => (encO ws2 vs2).map (a ++ ·)
  | [], [], ws2, vs2, _ => by simp [encO]
  | [], _ :: _, _, _, h => by cases h
  | _ :: _, [], _, _, h => by cases h
  | w :: ws, v :: vs, ws2, vs2, h => by
    have ih := enc_app ws vs ws2 vs2 (by simpa using h)
    rw [List.cons_append, List.cons_append, encO, encO, ih]
    cases fitW w v with
    | false => rfl
    | true =>
      simp only [if_true]
      cases encO ws vs with
      | none => rfl
      | some a =>
        cases encO ws2 vs2 with
        | none => rfl
        | some b => simp
theorem enc_rep (w : Int) : ∀ l : List Int, (∀ v ∈ l, fitW w v = true) → encO (List.replicate l.length w) l = some (l.flatMap (le w.toNat))
  | [], _ => by simp [encO]
  | v :: l, h => by
    rw [List.length_cons, List.replicate_succ, encO, if_pos (h v (by simp)), enc_rep w l (fun x hx => h x (by simp [hx]))]
    simp
theorem szO_all : ∀ ws : List Int, (∀ w ∈ ws, okW w = true) → ∃ n, szO ws = some n
  | [], _ => ⟨0, rfl⟩
  | w :: ws, h => by
    obtain ⟨n, hn⟩ := szO_all ws (fun x hx => h x (by simp [hx]))
    exact ⟨w + n, by rw [szO, if_pos (h w (by simp)), hn]; rfl⟩
theorem wr_of {ws vs bs : List Int} (hok : ∀ w ∈ ws, okW w = true) (hlen : ws.length = vs.length) (he : encO ws vs = some bs) : wrAll ws vs = (strOfNums bs, 0) := by
  obtain ⟨n, hn⟩ := szO_all ws hok
  unfold wrAll
  rw [hn, hlen, he]
  simp [wrI]
theorem ok1 : okW 1 = true := by decide
theorem ok2 : okW 2 = true := by decide
theorem ok4 : okW 4 = true := by decide
theorem bytes_loop (w : Int) (l : List Int) (hw : okW w = true) (hf : ∀ v ∈ l, fitW w v = true) (hl : l.length ≤ 1000) : ∀ (n i : Nat), l.length = i + n → Ev (fun k => r9_bytes.l0 k w l (List.replicate i w) (i : Int)) (strOfNums (l.flatMap (le w.toNat)))
  | 0, i, h => by
    have hi : i = l.length := by omega
    subst hi
    have hr := rwrite_ev (List.replicate l.length w) l (by rw [List.length_replicate]; omega)
    rw [wr_of (fun x hx => by rw [(List.mem_replicate.1 hx).2]; exact hw) (by rw [List.length_replicate]) (enc_rep w l hf)] at hr
    refine Ev.step (f := fun k => (r1_Write.f k (List.replicate l.length w) l).bind fun b => some b.1) (fun k => ?_) (Ev.bind hr (Ev.now _))
    simp only [r9_bytes.l0]
    rw [if_neg (by omega)]
  | n + 1, i, h => by
    have wi : wrap64 ((i : Int) + 1) = ((i + 1 : Nat) : Int) := by rw [wrap_in _ (by omega) (by omega)]; omega
    refine Ev.step (fun k => ?_) (bytes_loop w l hw hf hl n (i + 1) (by omega))
    simp only [r9_bytes.l0]
    rw [if_pos (by omega), if_pos (by rw [List.length_replicate]; omega), wi, List.replicate_succ']
theorem bytes_ev (w : Int) (l : List Int) (hw : okW w = true) (hf : ∀ v ∈ l, fitW w v = true) (hl : l.length ≤ 1000) : Ev (fun k => r9_bytes.f k w l) (strOfNums (l.flatMap (le w.toNat))) := bytes_loop w l hw hf hl l.length 0 (by omega)
theorem bytes1 (l : List Int) (hf : ∀ v ∈ l, fitW 1 v = true) (hl : l.length ≤ 1000) : Ev (fun k => r9_bytes.f k 1 l) (strOfNums (l.flatMap (le 1))) := bytes_ev 1 l ok1 hf hl
theorem bytes2 (l : List Int) (hf : ∀ v ∈ l, fitW 2 v = true) (hl : l.length ≤ 1000) : Ev (fun k => r9_bytes.f k 2 l) (strOfNums (l.flatMap (le 2))) := bytes_ev 2 l ok2 hf hl
theorem bytes4 (l : List Int) (hf : ∀ v ∈ l, fitW 4 v = true) (hl : l.length ≤ 1000) : Ev (fun k => r9_bytes.f k 4 l) (strOfNums (l.flatMap (le 4))) := bytes_ev 4 l ok4 hf hl
/-- The bytes, and zeros up to 32 behind them. -/
def out (bs : List Int) : ByteArray × Int := (strOfNums (bs ++ List.replicate (32 - bs.length) 0), 0)
theorem pad_out (bs : List Int) (h : bs.length ≤ 32) : Ev (fun k => mould_Pad.f k (strOfNums bs) 32) (out bs) := by
  have := pad_ev (strOfNums bs) 32 (by omega) (by rw [strOfNums_size]; exact h)
  rw [strOfNums_size, str_app] at this
  exact this
theorem zeros_eq (n : Nat) (h : n ≤ 32) : r1_Zeros.f (wrap64 (32 - (n : Int))) = some (strOfNums (List.replicate (32 - n) 0)) := by
  have e : wrap64 (32 - (n : Int)) = ((32 - n : Nat) : Int) := by rw [wrap_in _ (by omega) (by omega)]; omega
  unfold r1_Zeros.f
  rw [e, if_pos (by omega), if_pos (by omega), Int.toNat_natCast]
theorem two_len (l : List Int) : (l.flatMap (le 2)).length = 2 * l.length := by
  induction l with
  | nil => rfl
  | cons v l ih => rw [List.flatMap_cons, List.length_append, le_length, ih, List.length_cons]; omega
def headB (F K L S : Int) : List Int := le 1 F ++ (le 1 K ++ (le 2 L ++ le 4 S))
theorem head_len (F K L S : Int) : (headB F K L S).length = 8 := by unfold headB; simp [le_length]
/-- A run's numbers at a place, or zeros. -/
def sp3 (R : List SP) (i : Nat) : List Int := if i < R.length then [(R.getD i z48).f0, (R.getD i z48).f1, (R.getD i z48).f2] else [0, 0, 0]
theorem sp3_len (R : List SP) (i : Nat) : (sp3 R i).length = 3 := by unfold sp3; split <;> rfl
def tailB (F : Int) (P : List Int) (S1 D : Int) (R : List SP) (O : Int) : List Int :=
  if F = 1 then (P ++ [S1, D]).flatMap (le 2) else le 1 (R.length : Int) ++ (sp3 R 0 ++ (sp3 R 1 ++ (sp3 R 2 ++ [O]))).flatMap (le 2)
theorem spsOk_mem : ∀ (R : List SP) (q : Option SP), spsOk q R = true → ∀ s ∈ R, spOk s = true
  | [], _, _, s, h => by cases h
  | r :: R, none, h, s, hs => by
    simp only [spsOk, Bool.and_eq_true] at h
    rcases List.mem_cons.1 hs with rfl | hs
    · exact h.1
    · exact spsOk_mem R _ h.2 s hs
  | r :: R, some q, h, s, hs => by
    simp only [spsOk, Bool.and_eq_true] at h
    rcases List.mem_cons.1 hs with rfl | hs
    · exact h.1
    · exact spsOk_mem R _ h.2.2 s hs
theorem sp3_sm (R : List SP) (h : spsOk none R = true) (i : Nat) : ∀ v ∈ sp3 R i, sm v = true := by
  intro v hv
  unfold sp3 at hv
  by_cases hi : i < R.length
  · rw [if_pos hi] at hv
    have hm : R.getD i z48 ∈ R := by rw [List.getD_eq_getElem?_getD, List.getElem?_eq_getElem hi]; exact List.getElem_mem hi
    have := spOk_iff.1 (spsOk_mem R none h _ hm)
    generalize R.getD i z48 = s at *
    rw [sm_iff]
    rcases (by simpa using hv : v = s.f0 ∨ v = s.f1 ∨ v = s.f2) with rfl | rfl | rfl <;> omega
  · rw [if_neg hi] at hv
    rw [sm_iff]
    have : v = 0 := by simpa using hv
    omega
section
variable (F K L S : Int) (P : List Int) (S1 D : Int) (R : List SP) (O : Int)
theorem enc_head (hF : 0 ≤ F ∧ F ≤ 255) (hK : 0 ≤ K ∧ K ≤ 255) (hL : sm L = true) (hS : 0 ≤ S ∧ S ≤ 65535) : encO [1, 1, 2, 4] [F, K, L, S] = some (headB F K L S) := by
  simp only [encO, fit1 hF.1 hF.2, fit1 hK.1 hK.2, fit2 hL, fit4 hS.1 hS.2, if_true, Option.map_some]
  unfold headB
  simp
/-- What is known of a card that may be, and isn't none. -/
structure Is : Prop where
  hK : K = 1 ∨ K = 2
  hL : 1 ≤ L ∧ L ≤ 200
  hS : 0 ≤ S ∧ S ≤ 15360
  hF : (F = 1 ∧ P.length = 4 ∧ (∀ v ∈ P ++ [S1, D], sm v = true)) ∨ (F = 2 ∧ R.length ≤ 3 ∧ spsOk none R = true ∧ sm O = true)
theorem is_of (hr : rt F K L S P S1 D R O = true) (hn : nn F K L S P S1 D R O = false) : Is F K L S P S1 D R O := by
  unfold rt at hr
  rw [hn, Bool.false_or, Bool.and_eq_true] at hr
  obtain ⟨ha, hr⟩ := hr
  have hm : ∀ v ∈ P ++ [S1, D, O], sm v = true := List.all_eq_true.1 ha
  have hdn : ∀ m, m ≤ 15360 → hd K L S m = true → (K = 1 ∨ K = 2) ∧ (1 ≤ L ∧ L ≤ 200) ∧ (0 ≤ S ∧ S ≤ 15360) := fun m hm h => by
    have := of_decide_eq_true h
    exact ⟨this.1, ⟨this.2.1, this.2.2.1⟩, ⟨this.2.2.2.1, by omega⟩⟩
  rw [Bool.or_eq_true] at hr
  rcases hr with hr | hr
  · simp only [Bool.and_eq_true, decide_eq_true_eq] at hr
    obtain ⟨h1, h2, h3, h4, h5⟩ := hr
    obtain ⟨a, b, c⟩ := hdn _ (by omega) h2
    exact ⟨a, b, c, Or.inl ⟨h1, by omega, fun v hv => hm v (by rcases List.mem_append.1 hv with hv | hv; exact List.mem_append_left _ hv; exact List.mem_append_right _ (by simp at hv ⊢; rcases hv with h | h <;> simp [h]))⟩⟩
  · simp only [Bool.and_eq_true, decide_eq_true_eq] at hr
    obtain ⟨h1, h2, h3, h4, h5, _⟩ := hr
    obtain ⟨a, b, c⟩ := hdn _ (by omega) h5
    exact ⟨a, b, c, Or.inr ⟨h1, by omega, h3, hm O (by simp)⟩⟩
theorem moulds_one : cards_moulds.f 1 = some ([1, 1, 2, 4] ++ List.replicate 6 2) := by
  unfold cards_moulds.f sl_Rp.f
  rfl
theorem moulds_two : cards_moulds.f 2 = some (([1, 1, 2, 4] ++ [1]) ++ List.replicate 10 2) := by
  unfold cards_moulds.f sl_Rp.f
  rfl
theorem values_two (F K L S : Int) (P : List Int) (S1 D : Int) (R : List SP) (O : Int) (hF : ¬ F = 1) : Ev (fun k => cards_values.f k F K L S P S1 D R O) (([F, K, L, S] ++ [(R.length : Int)]) ++ (sp3 R 0 ++ (sp3 R 1 ++ (sp3 R 2 ++ [O])))) := by
  have step : ∀ (acc : List Int) (i : Nat), i < 3 → acc.length ≤ 100 → ∀ k, cards_values.l0 (k + 1) acc (i : Int) F K L S P S1 D R O = cards_values.l0 k (acc ++ sp3 R i) ((i + 1 : Nat) : Int) F K L S P S1 D R O := by
    intro acc i hi ha k
    have wi : wrap64 ((i : Int) + 1) = ((i + 1 : Nat) : Int) := by rw [wrap_in _ (by omega) (by omega)]; omega
    simp only [cards_values.l0]
    rw [if_pos (by omega), wi]
    unfold sp3
    by_cases hr : i < R.length
    · rw [if_pos (by omega), if_pos (by omega), if_pos hr, rdT, Option.bind_some, if_pos (by simp only [List.length_cons, List.length_nil]; omega)]
    · rw [if_neg (by omega), if_neg hr, Option.bind_some, if_pos (by simp only [List.length_cons, List.length_nil]; omega)]
  have e3 : ∀ i, (sp3 R i).length = 3 := sp3_len R
  unfold cards_values.f
  simp only [Option.bind_some, if_neg hF, if_pos (show ([F, K, L, S] : List Int).length < 17592186044416 by simp)]
  refine Ev.step (fun k => step _ 0 (by omega) (by simp) k) (Ev.step (fun k => step _ 1 (by omega) (by rw [List.length_append, e3]; simp) k) (Ev.step (fun k => step _ 2 (by omega) (by rw [List.length_append, List.length_append, e3, e3]; simp) k) ?_))
  refine Ev.step (f := fun _ => some _) (fun k => ?_) (Ev.now _)
  simp only [cards_values.l0]
  rw [if_neg (by omega), if_pos (by rw [List.length_append, List.length_append, List.length_append, e3, e3, e3]; simp)]
  simp
theorem le_two_all {l : List Int} (h : ∀ v ∈ l, sm v = true) : encO (List.replicate l.length 2) l = some (l.flatMap (le 2)) := enc_rep 2 l (fun v hv => fit2 (h v hv))
theorem write_ev9 (hP : P.length + 3 < 17592186044416) (hR : R.length ≤ 9223372036854775807) : Ev (fun k => cards_Write.f k F K L S P S1 D R O) (if rt F K L S P S1 D R O = true then (if nn F K L S P S1 D R O = true then out [] else out (headB F K L S ++ tailB F P S1 D R O)) else ((⟨#[]⟩ : ByteArray), 1)) := by
  unfold cards_Write.f
  refine Ev.bind (right_ev F K L S P S1 D R O hP hR) ?_
  cases hr : rt F K L S P S1 D R O with
  | false => simp only [Bool.false_eq_true, if_false]; exact Ev.now _
  | true =>
    simp only [if_true]
    have hnn : Ev (fun k => cards_none.f k F K L S P S1 D R O) (nn F K L S P S1 D R O) := by
      unfold cards_none.f
      exact Ev.bind (same_ev F K L S P S1 D R O 0 0 0 0 [] 0 0 [] 0 (by omega) hR) (Ev.now _)
    refine Ev.bind hnn ?_
    cases hn : nn F K L S P S1 D R O with
    | true =>
      simp only [if_true]
      exact Ev.bind (pad_out [] (by simp)) (Ev.now _)
    | false =>
      simp only [Bool.false_eq_true, if_false]
      obtain ⟨hK, hL, hS, hF⟩ := is_of F K L S P S1 D R O hr hn
      have eh : F = 1 ∨ F = 2 → encO [1, 1, 2, 4] [F, K, L, S] = some (headB F K L S) := fun h => enc_head F K L S (by omega) (by omega) (sm_iff.2 (by omega)) (by omega)
      rcases hF with ⟨rfl, hP4, hsm⟩ | ⟨rfl, hR3, hsp, hO⟩
      · rw [moulds_one]
        have hv : Ev (fun k => cards_values.f k 1 K L S P S1 D R O) ([1, K, L, S] ++ (P ++ [S1, D])) := by
          unfold cards_values.f
          refine Ev.congr (f := fun _ => some _) (fun k => ?_) (Ev.now _)
          rw [Option.bind_some, if_pos rfl, if_pos (by simp only [List.length_cons, List.length_nil]; omega), Option.bind_some, Option.bind_some, if_pos (by simp only [List.length_append, List.length_cons, List.length_nil]; omega), List.append_assoc]
        simp only [Option.bind_some]
        refine Ev.bind hv ?_
        have hl6 : (P ++ [S1, D]).length = 6 := by rw [List.length_append, hP4]; rfl
        have he : encO ([1, 1, 2, 4] ++ List.replicate 6 2) ([1, K, L, S] ++ (P ++ [S1, D])) = some (headB 1 K L S ++ tailB 1 P S1 D R O) := by
          rw [enc_app [1, 1, 2, 4] [1, K, L, S] _ _ rfl, eh (Or.inl rfl), Option.bind_some]
          have := le_two_all hsm
          rw [hl6] at this
          rw [this, tailB, if_pos rfl]
          rfl
        have hw := write_ev ([1, 1, 2, 4] ++ List.replicate 6 2) ([1, K, L, S] ++ (P ++ [S1, D])) (by simp)
        rw [wr_of (by decide) (by simp [hP4]) he] at hw
        refine Ev.bind hw ?_
        simp only [if_true]
        exact Ev.bind (pad_out _ (by rw [List.length_append, head_len, tailB, if_pos rfl, two_len, hl6]; omega)) (Ev.now _)
      · rw [moulds_two]
        simp only [Option.bind_some]
        refine Ev.bind (values_two 2 K L S P S1 D R O (by decide)) ?_
        have hl10 : (sp3 R 0 ++ (sp3 R 1 ++ (sp3 R 2 ++ [O]))).length = 10 := by simp [sp3_len]
        have hsm : ∀ v ∈ sp3 R 0 ++ (sp3 R 1 ++ (sp3 R 2 ++ [O])), sm v = true := by
          intro v hv
          simp only [List.mem_append, List.mem_singleton] at hv
          rcases hv with h | h | h | h
          · exact sp3_sm R hsp 0 v h
          · exact sp3_sm R hsp 1 v h
          · exact sp3_sm R hsp 2 v h
          · rw [h]; exact hO
        have he : encO (([1, 1, 2, 4] ++ [1]) ++ List.replicate 10 2) (([2, K, L, S] ++ [(R.length : Int)]) ++ (sp3 R 0 ++ (sp3 R 1 ++ (sp3 R 2 ++ [O])))) = some (headB 2 K L S ++ tailB 2 P S1 D R O) := by
          rw [enc_app ([1, 1, 2, 4] ++ [1]) ([2, K, L, S] ++ [(R.length : Int)]) _ _ rfl, enc_app [1, 1, 2, 4] [2, K, L, S] _ _ rfl, eh (Or.inr rfl)]
          have e1 : encO [1] [(R.length : Int)] = some (le 1 (R.length : Int)) := by
            simp only [encO, fit1 (show (0 : Int) ≤ (R.length : Int) by omega) (by omega), if_true, Option.map_some]
            simp
          have := le_two_all hsm
          rw [hl10] at this
          rw [this, e1, tailB, if_neg (by decide)]
          simp [List.append_assoc]
        have hw := write_ev (([1, 1, 2, 4] ++ [1]) ++ List.replicate 10 2) (([2, K, L, S] ++ [(R.length : Int)]) ++ (sp3 R 0 ++ (sp3 R 1 ++ (sp3 R 2 ++ [O])))) (by simp)
        rw [wr_of (by decide) (by simp [sp3_len]) he] at hw
        refine Ev.bind hw ?_
        simp only [if_true]
        exact Ev.bind (pad_out _ (by rw [List.length_append, head_len, tailB, if_neg (by decide), List.length_append, le_length, two_len, hl10]; omega)) (Ev.now _)
theorem w_in (x : List Int) (i k : Nat) (hi : i < 3) : r9_Write.l0 (k + 1) (strOfNums x) (i : Int) 2 K L S P S1 D R O = (r9_bytes.f k 2 (sp3 R i)).bind fun t => if (strOfNums x).size + t.size ≤ 9223372036854775807 then r9_Write.l0 k (strOfNums x ++ t) ((i + 1 : Nat) : Int) 2 K L S P S1 D R O else none := by
  have wi : wrap64 ((i : Int) + 1) = ((i + 1 : Nat) : Int) := by rw [wrap_in _ (by omega) (by omega)]; omega
  rw [r9_Write.l0]
  rw [if_pos (show (i : Int) < 3 by omega), wi]
  unfold sp3
  by_cases hr : i < R.length
  · rw [if_pos (show (i : Int) < (R.length : Int) by omega), if_pos (show 0 ≤ (i : Int) by omega), if_pos hr, rdT]
  · rw [if_neg (show ¬ (i : Int) < (R.length : Int) by omega), if_neg hr]
theorem rwrite_ev9 (hP : P.length + 3 < 17592186044416) (hR : R.length ≤ 9223372036854775807) : Ev (fun k => r9_Write.f k F K L S P S1 D R O) (if rt F K L S P S1 D R O = true then (if nn F K L S P S1 D R O = true then out [] else out (headB F K L S ++ tailB F P S1 D R O)) else ((⟨#[]⟩ : ByteArray), 1)) := by
  unfold r9_Write.f
  refine Ev.bind (rright_ev F K L S P S1 D R O hP hR) ?_
  cases hr : rt F K L S P S1 D R O with
  | false => simp only [Bool.false_eq_true, if_false]; exact Ev.now _
  | true =>
    simp only [if_true]
    cases hn : nn F K L S P S1 D R O with
    | true =>
      simp only [if_true]
      have hz : F = 0 := by
        unfold nn T at hn
        exact (@of_decide_eq_true _ (Classical.propDecidable _) hn).1
      subst hz
      simp only [if_true]
      refine Ev.step (f := fun k => r9_Write.j1 k (⟨#[]⟩ : ByteArray) 0 K L S P S1 D R O) (fun k => ?_) (Ev.step (f := fun _ => some (out [])) (fun k => ?_) (Ev.now _))
      · simp only [r9_Write.j0]
        rw [if_neg (by decide)]
      · simp only [r9_Write.j1]
        rw [if_neg (by decide), show ((⟨#[]⟩ : ByteArray).size : Int) = ((0 : Nat) : Int) from rfl, zeros_eq 0 (by omega), Option.bind_some, strOfNums_size, if_pos (by show 0 + (List.replicate (32 - 0) (0 : Int)).length ≤ 9223372036854775807; simp), str_nil]
        rfl
    | false =>
      simp only [Bool.false_eq_true, if_false]
      obtain ⟨hK, hL, hS, hF⟩ := is_of F K L S P S1 D R O hr hn
      have hF12 : F = 1 ∨ F = 2 := by rcases hF with h | h; exact Or.inl h.1; exact Or.inr h.1
      simp only [if_neg (show ¬ F = 0 by omega)]
      have b1 := bytes1 [F, K] (fun v hv => by rcases (by simpa using hv : v = F ∨ v = K) with rfl | rfl <;> exact fit1 (by omega) (by omega)) (by simp)
      have b2 := bytes2 [L] (fun v hv => by rw [show v = L by simpa using hv]; exact fit2 (sm_iff.2 (by omega))) (by simp)
      have b3 := bytes4 [S] (fun v hv => by rw [show v = S by simpa using hv]; exact fit4 (by omega) (by omega)) (by simp)
      have n1 : ([F, K].flatMap (le 1)).length = 2 := by simp [le_length]
      have n2 : ([L].flatMap (le 2)).length = 2 := by simp [le_length]
      have n3 : ([S].flatMap (le 4)).length = 4 := by simp [le_length]
      refine Ev.bind b1 (Ev.bind b2 ?_)
      simp only [strOfNums_size, n1, n2, if_pos (show 2 + 2 ≤ 9223372036854775807 by decide)]
      refine Ev.bind b3 ?_
      have hh : (strOfNums ([F, K].flatMap (le 1)) ++ strOfNums ([L].flatMap (le 2))) ++ strOfNums ([S].flatMap (le 4)) = strOfNums (headB F K L S) := by
        rw [str_app, str_app]
        unfold headB
        simp
      have hs2 : (strOfNums ([F, K].flatMap (le 1)) ++ strOfNums ([L].flatMap (le 2))).size = 4 := by rw [str_app, strOfNums_size, List.length_append, n1, n2]
      simp only [hs2, n3, strOfNums_size, if_pos (show 4 + 4 ≤ 9223372036854775807 by decide), hh]
      rcases hF with ⟨rfl, hP4, hsm⟩ | ⟨rfl, hR3, hsp, hO⟩
      · have hl6 : (P ++ [S1, D]).length = 6 := by rw [List.length_append, hP4]; rfl
        have c1 := bytes2 P (fun v hv => fit2 (hsm v (List.mem_append_left _ hv))) (by omega)
        have c2 := bytes2 [S1, D] (fun v hv => fit2 (hsm v (List.mem_append_right _ hv))) (by simp)
        have m1 : (P.flatMap (le 2)).length = 8 := by have := two_len P; rw [hP4] at this; exact this
        have m2 : ([S1, D].flatMap (le 2)).length = 4 := by simp [le_length]
        have ht : strOfNums (headB 1 K L S) ++ (strOfNums (P.flatMap (le 2)) ++ strOfNums ([S1, D].flatMap (le 2))) = strOfNums (headB 1 K L S ++ tailB 1 P S1 D R O) := by
          rw [str_app, str_app, tailB, if_pos rfl, List.flatMap_append]
        have hln : (headB 1 K L S ++ tailB 1 P S1 D R O).length = 20 := by rw [List.length_append, head_len, tailB, if_pos rfl, two_len, hl6]
        refine Ev.step (f := fun k => (r9_bytes.f k 2 P).bind fun t => (r9_bytes.f k 2 [S1, D]).bind fun t2 => if t.size + t2.size ≤ 9223372036854775807 then (if (strOfNums (headB 1 K L S)).size + (t ++ t2).size ≤ 9223372036854775807 then r9_Write.j1 k (strOfNums (headB 1 K L S) ++ (t ++ t2)) 1 K L S P S1 D R O else none) else none) (fun k => ?_) (Ev.bind c1 (Ev.bind c2 ?_))
        · simp only [r9_Write.j0]
          rw [if_pos trivial]
        · rw [str_app] at ht
          simp only [strOfNums_size, m1, m2, str_app, List.length_append, head_len, if_pos (show 8 + 4 ≤ 9223372036854775807 by decide), if_pos (show 8 + (8 + 4) ≤ 9223372036854775807 by decide)]
          rw [str_app] at ht
          rw [ht]
          refine Ev.step (f := fun _ => some (out (headB 1 K L S ++ tailB 1 P S1 D R O))) (fun k => ?_) (Ev.now _)
          simp only [r9_Write.j1]
          rw [if_neg (by decide), strOfNums_size, hln, zeros_eq 20 (by omega), Option.bind_some, strOfNums_size, if_pos (by simp), str_app]
          unfold out
          rw [hln]
      · have c0 := bytes1 [(R.length : Int)] (fun v hv => by rw [show v = (R.length : Int) by simpa using hv]; exact fit1 (by omega) (by omega)) (by simp)
        have m0 : ([(R.length : Int)].flatMap (le 1)).length = 1 := by simp [le_length]
        have c4 := bytes2 [O] (fun v hv => by rw [show v = O by simpa using hv]; exact fit2 hO) (by simp)
        have m4 : ([O].flatMap (le 2)).length = 2 := by simp [le_length]
        have cs : ∀ i, Ev (fun k => r9_bytes.f k 2 (sp3 R i)) (strOfNums ((sp3 R i).flatMap (le 2))) := fun i => bytes2 (sp3 R i) (fun v hv => fit2 (sp3_sm R hsp i v hv)) (by rw [sp3_len]; omega)
        have ms : ∀ i, ((sp3 R i).flatMap (le 2)).length = 6 := fun i => by have := two_len (sp3 R i); rw [sp3_len] at this; exact this
        have step : ∀ (x : List Int) (i : Nat) (r : ByteArray × Int), i < 3 → x.length ≤ 100 → Ev (fun k => r9_Write.l0 k (strOfNums (x ++ (sp3 R i).flatMap (le 2))) ((i + 1 : Nat) : Int) 2 K L S P S1 D R O) r → Ev (fun k => r9_Write.l0 k (strOfNums x) (i : Int) 2 K L S P S1 D R O) r := by
          intro x i r hi hx h
          refine Ev.step (f := fun k => (r9_bytes.f k 2 (sp3 R i)).bind fun t => if (strOfNums x).size + t.size ≤ 9223372036854775807 then r9_Write.l0 k (strOfNums x ++ t) ((i + 1 : Nat) : Int) 2 K L S P S1 D R O else none) (fun k => w_in K L S P S1 D R O x i k hi) (Ev.bind (cs i) ?_)
          refine Ev.congr (fun k => ?_) h
          rw [strOfNums_size, strOfNums_size, ms, if_pos (by omega), str_app]
        have hln : (headB 2 K L S ++ tailB 2 P S1 D R O).length = 29 := by
          rw [List.length_append, head_len, tailB, if_neg (by decide), List.length_append, le_length, two_len]
          simp [sp3_len]
        refine Ev.step (f := fun k => r9_Write.j1 k (strOfNums (headB 2 K L S)) 2 K L S P S1 D R O) (fun k => ?_) ?_
        · simp only [r9_Write.j0]
          rw [if_neg (by decide)]
        refine Ev.step (f := fun k => (r9_bytes.f k 1 [(R.length : Int)]).bind fun t => if (strOfNums (headB 2 K L S)).size + t.size ≤ 9223372036854775807 then r9_Write.l0 k (strOfNums (headB 2 K L S) ++ t) 0 2 K L S P S1 D R O else none) (fun k => ?_) (Ev.bind c0 ?_)
        · simp only [r9_Write.j1]
          rw [if_pos trivial]
        simp only [strOfNums_size, m0, head_len, if_pos (show 8 + 1 ≤ 9223372036854775807 by decide), str_app]
        obtain ⟨X0, hX0⟩ : ∃ X, X = headB 2 K L S ++ [(R.length : Int)].flatMap (le 1) := ⟨_, rfl⟩
        obtain ⟨X1, hX1⟩ : ∃ X, X = X0 ++ (sp3 R 0).flatMap (le 2) := ⟨_, rfl⟩
        obtain ⟨X2, hX2⟩ : ∃ X, X = X1 ++ (sp3 R 1).flatMap (le 2) := ⟨_, rfl⟩
        obtain ⟨X3, hX3⟩ : ∃ X, X = X2 ++ (sp3 R 2).flatMap (le 2) := ⟨_, rfl⟩
        have l0 : X0.length = 9 := by rw [hX0, List.length_append, head_len, m0]
        have l1 : X1.length = 15 := by rw [hX1, List.length_append, l0, ms]
        have l2 : X2.length = 21 := by rw [hX2, List.length_append, l1, ms]
        have l3 : X3.length = 27 := by rw [hX3, List.length_append, l2, ms]
        have ht : X3 ++ [O].flatMap (le 2) = headB 2 K L S ++ tailB 2 P S1 D R O := by
          rw [tailB, if_neg (by decide), hX3, hX2, hX1, hX0]
          simp [List.flatMap_append, List.append_assoc]
        have e3 : Ev (fun k => r9_Write.l0 k (strOfNums X3) ((3 : Nat) : Int) 2 K L S P S1 D R O) (out (headB 2 K L S ++ tailB 2 P S1 D R O)) := by
          refine Ev.step (f := fun k => (r9_bytes.f k 2 [O]).bind fun t => if (strOfNums X3).size + t.size ≤ 9223372036854775807 then ((r1_Zeros.f (wrap64 (32 - ((strOfNums X3 ++ t).size : Int)))).bind fun t2 => if (strOfNums X3 ++ t).size + t2.size ≤ 9223372036854775807 then some ((strOfNums X3 ++ t) ++ t2, 0) else none) else none) (fun k => ?_) (Ev.bind c4 ?_)
          · rw [r9_Write.l0]
            rw [if_neg (show ¬ ((3 : Nat) : Int) < 3 by omega)]
          · refine Ev.congr (f := fun _ => some (out (headB 2 K L S ++ tailB 2 P S1 D R O))) (fun k => ?_) (Ev.now _)
            rw [strOfNums_size, strOfNums_size, m4, l3, if_pos (by decide), str_app, ht, strOfNums_size, hln, zeros_eq 29 (by omega), Option.bind_some, strOfNums_size, if_pos (by simp), str_app]
            unfold out
            rw [hln]
        rw [hX3] at e3
        have e2 := step X2 2 _ (by omega) (by omega) e3
        rw [hX2] at e2
        have e1 := step X1 1 _ (by omega) (by omega) e2
        rw [hX1] at e1
        have e0 := step X0 0 _ (by omega) (by omega) e1
        rw [hX0] at e0
        exact e0
end
end Go.Proofs.Ytgigoogekimgkaa.Pure
