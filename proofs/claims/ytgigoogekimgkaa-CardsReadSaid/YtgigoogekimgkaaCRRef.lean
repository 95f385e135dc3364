/- The reference's reading of a card's bytes, by its walks (RR): what it answers is what the program's reading answers. Conditions: as the theorems state them. -/
import Derived.Test.YtgigoogekimgkaaRR
import Derived.Test.YtgigoogekimgkaaBBack
import Derived.Test.YtgigoogekimgkaaCRRead
import Derived.Test.YtgigoogekimgkaaGCrdx12
import Derived.Test.YtgigoogekimgkaaGCrdx16
namespace Go.Proofs.Ytgigoogekimgkaa.GCrd
open Go.RowKit Go.Proofs.YtgigoogekimgkaaW.PrintWords Go.Proofs.YtgigoogekimgkaaW.PrintLast Go.Proofs.YtgigoogekimgkaaW.PrintMore Go.Proofs.Ytgigoogekimgkaa.Plain Go.Proofs.Ytgigoogekimgkaa.Mould Go.Proofs.Ytgigoogekimgkaa.Pure
def PostT (T : Tup) (w : World) (en : Ending) (w' : World) : Prop :=
  ∃ v4_ v7_ : Value, en = .returned (.tuple #[.agg #[.int .i64 T.1, .int .i64 T.2.1, .int .i64 T.2.2.1, .int .i64 T.2.2.2.1, v4_, .int .i64 T.2.2.2.2.2.1, .int .i64 T.2.2.2.2.2.2.1, v7_, .int .i64 T.2.2.2.2.2.2.2.2.1], .int .i64 T.2.2.2.2.2.2.2.2.2]) ∧ Kd.R (Kd.int .i64) 3 w' w.heap.size (fun _ => True) v4_ T.2.2.2.2.1 ∧ Kd.R k48 48 w' w.heap.size (fun _ => True) v7_ T.2.2.2.2.2.2.2.1 ∧ Below w.heap.size w w'
theorem w_calls (F K L S : Int) (A : Option Addr) (c : Nat) (P : List Int) (S1 D : Int) (B : Option Addr) (d : Nat) (R : List S48) (O : Int) (W : World) (hP : Kd.C (Kd.int .i64) W A P.length P) (hc : P.length ≤ c) (hR : Kd.C k48 W B R.length R) (hd : R.length ≤ d) (hl : P.length + 3 < 17592186044416) :
    Calls Try.prog 10 #[.agg #[.int .i64 F, .int .i64 K, .int .i64 L, .int .i64 S, .slice A P.length c, .int .i64 S1, .int .i64 D, .slice B R.length d, .int .i64 O]] W fun e w' => e = .returned (.tuple #[.string (WR F K L S P S1 D R O).1, .int .i64 (WR F K L S P S1 D R O).2]) ∧ Below W.heap.size W w' := by
  obtain ⟨k, h⟩ := Ev.rounds (rwrite_ev9 F K L S P S1 D R O hl hR.2.1)
  exact r9_Write.calls k F K L S A c P S1 D B d R O _ _ W hP hc hR hd h
theorem a_calls (s : ByteArray) (ws : List Int) (n : Int) (hl : ws.length ≤ 100) (hs : s.size ≤ 1000) (hz : szO ws = some n) (hn : n ≤ s.size) (A : Option Addr) (c : Nat) (W : World) (hC : Kd.C (Kd.int .i64) W A ws.length ws) (hc : ws.length ≤ c) :
    Calls Try.prog 37 #[.slice A ws.length c, .string s] W fun e w' => ∃ v0 : Value, e = .returned (.tuple #[v0, .int .i64 0]) ∧ Kd.R (Kd.int .i64) 3 w' W.heap.size (fun _ => True) v0 (dec ws (bytesOf s)) ∧ Below W.heap.size W w' := by
  obtain ⟨k, h⟩ := Ev.rounds (rr_ev ws s n hl hs hz hn)
  exact r1_Read.calls k A c ws s _ _ W hC hc h
theorem ev_one {α : Type} {g : Nat → Option α} {a b : α} (h : Ev g a) (k : Ev g b) : a = b := by
  obtain ⟨K, h⟩ := h
  obtain ⟨J, k⟩ := k
  have := (h (max K J) (Nat.le_max_left _ _)).symm.trans (k (max K J) (Nat.le_max_right _ _))
  exact Option.some.inj this
theorem rd_app1 (hs ps : List Int) (i : Nat) (h : i < hs.length) : rd (hs ++ ps) (i : Int) = rd hs (i : Int) := by
  rw [rd_at, rd_at, List.getD_eq_getElem?_getD, List.getD_eq_getElem?_getD, List.getElem?_append_left h]
theorem rd_app2 (hs ps : List Int) (i j : Nat) (h : i = hs.length + j) : rd (hs ++ ps) (i : Int) = rd ps (j : Int) := by
  rw [rd_at, rd_at, List.getD_eq_getElem?_getD, List.getD_eq_getElem?_getD, List.getElem?_append_right (by omega), show i - hs.length = j by omega]
theorem nilC {α : Type} (d : Kd α) (W : World) : Kd.C d W none ([] : List α).length [] := ⟨rfl, by simp, fun h => absurd h (by simp)⟩
set_option maxHeartbeats 4000000 in
set_option maxRecDepth 100000 in
theorem ref_short (a0 : ByteArray) (h : ¬ (a0.size : Int) = 32) (w : World) : Calls Try.prog 14 #[.string a0] w (PostT badT w) := by
  have z1 : ((a0.size : Int) != 32) = true := bne_iff_ne.2 h
  have z0 : ((a0.size : Int) == 32) = false := beq_eq_false_iff_ne.2 h
  have HB := Aside0.mk (Below.refl w.heap.size w)
  clear h
  have hu25 := Try.underlying25
  go_enter Try.func14, Try.ntmps14
  have HZ := Aside0.mk (heap_alloc_new w (.cells #[.int .i64 0, .int .i64 0, .int .i64 0, .int .i64 0, .slice none 0 0, .int .i64 0, .int .i64 0, .slice none 0 0, .int .i64 0] 25 (0, 0)))
  go_wp2_with (refine wpList_store_row rfl 25 _ _ rfl w.heap.size #[.int .i64 0, .int .i64 0, .int .i64 0, .int .i64 0, .slice none 0 0, .int .i64 0, .int .i64 0, .slice none 0 0, .int .i64 0] rfl rfl 25 #[.int .i64 0, .int .i64 0, .int .i64 0, .int .i64 0, .slice none 0 0, .int .i64 0, .int .i64 0, .slice none 0 0, .int .i64 0] HZ.out RR.info25 rfl (by kernel_rfl) ?_)
  refine bodyPost_ret (results_ct rfl _ _ w.heap.size 25 #[.int .i64 0, .int .i64 0, .int .i64 0, .int .i64 0, .slice none 0 0, .int .i64 0, .int .i64 0, .slice none 0 0, .int .i64 0] (0, 0) _ rfl (setRow_heap _ _ _ _ _ _ HZ.out) Try.underlying25 rfl RR.info25) rfl ?_
  exact ⟨_, _, rfl, Kd.R_nil _ _ _ _ _, Kd.R_nil _ _ _ _ _, below_setRow (HB.out.alloc (Nat.le_refl _) _) (Nat.le_refl _) _⟩
theorem post_good (s : ByteArray) (F K L S : Int) (P : List Int) (S1 D : Int) (R : List S48) (O : Int) (w : World) (h2 : (WR F K L S P S1 D R O).2 = 0) (h1 : (WR F K L S P S1 D R O).1.toList = s.toList) (e : Ending) (w' : World)
    (h : PostT (F, K, L, S, P, S1, D, R, O, 0) w e w') : PostT (rdR s F K L S P S1 D R O) w e w' := by
  unfold rdR
  rw [if_pos ⟨h2, h1⟩]
  exact h
theorem post_bad (s : ByteArray) (F K L S : Int) (P : List Int) (S1 D : Int) (R : List S48) (O : Int) (w : World) (h1 : ¬ ((WR F K L S P S1 D R O).2 = 0 ∧ (WR F K L S P S1 D R O).1.toList = s.toList)) (e : Ending) (w' : World)
    (h : PostT badT w e w') : PostT (rdR s F K L S P S1 D R O) w e w' := by
  unfold rdR
  rw [if_neg h1]
  exact h
theorem hs_len (s : ByteArray) : (dec [1, 1, 2, 4] (bytesOf s)).length = 4 := dec_length _ _
theorem hs_zero (s : ByteArray) (h : (s.size : Int) = 32) : rd (dec [1, 1, 2, 4] (bytesOf s)) 0 = bt s 0 := dec_first _ s h
theorem vs_split (s : ByteArray) (ws : List Int) : dec ([1, 1, 2, 4] ++ ws) (bytesOf s) = dec [1, 1, 2, 4] (bytesOf s) ++ dec ws (bytesOf (s.extract 8 s.size)) := by
  rw [dec_app [1, 1, 2, 4] ws (bytesOf s) 8 rfl, bytesOf_tail]
  rfl
theorem ca (s : ByteArray) (h32 : s.size = 32) (A : Option Addr) (c : Nat) (W : World) (hC : Kd.C (Kd.int .i64) W A 4 [1, 1, 2, 4]) (hc : 4 ≤ c) :
    Aside0 (Calls Try.prog 37 #[.slice A 4 c, .string s] W fun e w' => ∃ v0 : Value, e = .returned (.tuple #[v0, .int .i64 0]) ∧ Kd.R (Kd.int .i64) 3 w' W.heap.size (fun _ => True) v0 (dec [1, 1, 2, 4] (bytesOf s)) ∧ Below W.heap.size W w') :=
  ⟨a_calls s [1, 1, 2, 4] 8 (by decide) (by omega) rfl (by omega) A c W hC hc⟩
theorem ref_one (s : ByteArray) (h32 : s.size = 32) (h1 : bt s 0 = 1) (w : World) (T : Tup) (hT : Ev (fun k => cards_Read.f k s) T) : Calls Try.prog 14 #[.string s] w (PostT T w) := by
  have h : (s.size : Int) = 32 := by omega
  obtain ⟨hs, hhs⟩ : ∃ hs, hs = dec [1, 1, 2, 4] (bytesOf s) := ⟨_, rfl⟩
  obtain ⟨ps, hps⟩ : ∃ ps, ps = dec [2, 2, 2, 2, 2, 2] (bytesOf (s.extract 8 s.size)) := ⟨_, rfl⟩
  have lh : hs.length = 4 := by rw [hhs]; exact hs_len s
  have lp : ps.length = 6 := by rw [hps]; exact dec_length _ _
  have h0 : rd hs 0 = 1 := by rw [hhs, hs_zero s h, h1]
  have hv : hs ++ ps = dec ws1 (bytesOf s) := by rw [hhs, hps]; exact (vs_split s (List.replicate 6 2)).symm
  have e := ev_one hT (read_one s h h1 (hs ++ ps) hv)
  have f : ∀ i : Nat, i < 4 → rd (hs ++ ps) (i : Int) = rd hs (i : Int) := fun i hi => rd_app1 hs ps i (by omega)
  have fd : (hs ++ ps).drop 4 = ps := List.drop_left' lh
  rw [show rd (hs ++ ps) 0 = rd hs 0 from f 0 (by omega), show rd (hs ++ ps) 1 = rd hs 1 from f 1 (by omega), show rd (hs ++ ps) 2 = rd hs 2 from f 2 (by omega), show rd (hs ++ ps) 3 = rd hs 3 from f 3 (by omega), fd, h0] at e
  subst e
  have lt : (ps.take 4).length = 4 := by rw [List.length_take]; omega
  refine RR.one s h32 hs ps lh lp h0 _ _ (by rw [hhs]; exact ca s h32) (fun A c W hC hc => ⟨?_⟩) (fun A c W hC hc => ⟨?_⟩) _ w (fun h2 ht e w' hp => post_good s _ _ _ _ _ _ _ _ _ w h2 ht e w' hp) (fun hn e w' hp => post_bad s _ _ _ _ _ _ _ _ _ w hn e w' hp)
  · rw [hps]
    exact a_calls (s.extract 8 s.size) [2, 2, 2, 2, 2, 2] 12 (by decide) (by rw [ByteArray.size_extract]; omega) rfl (by rw [ByteArray.size_extract]; omega) A c W hC hc
  · have := w_calls 1 (rd hs 1) (rd hs 2) (rd hs 3) A c (ps.take 4) (rd ps 4) (rd ps 5) none 0 [] 0 W (by rw [lt]; exact hC) (by omega) (nilC _ W) (Nat.le_refl _) (by omega)
    rw [lt] at this
    exact this
theorem ref_two (s : ByteArray) (h32 : s.size = 32) (h1 : bt s 0 = 2) (w : World) (T : Tup) (hT : Ev (fun k => cards_Read.f k s) T) : Calls Try.prog 14 #[.string s] w (PostT T w) := by
  have h : (s.size : Int) = 32 := by omega
  obtain ⟨hs, hhs⟩ : ∃ hs, hs = dec [1, 1, 2, 4] (bytesOf s) := ⟨_, rfl⟩
  obtain ⟨ps, hps⟩ : ∃ ps, ps = dec [1, 2, 2, 2, 2, 2, 2, 2, 2, 2, 2] (bytesOf (s.extract 8 s.size)) := ⟨_, rfl⟩
  have lh : hs.length = 4 := by rw [hhs]; exact hs_len s
  have lp : ps.length = 11 := by rw [hps]; exact dec_length _ _
  have h0 : rd hs 0 = 2 := by rw [hhs, hs_zero s h, h1]
  have hv : hs ++ ps = dec ws2 (bytesOf s) := by
    rw [hhs, hps]
    exact (vs_split s ([1] ++ List.replicate 10 2)).symm
  have e := ev_one hT (read_two s h h1 (hs ++ ps) hv)
  have f : ∀ i : Nat, i < 4 → rd (hs ++ ps) (i : Int) = rd hs (i : Int) := fun i hi => rd_app1 hs ps i (by omega)
  have g : ∀ i j : Nat, i = 4 + j → rd (hs ++ ps) (i : Int) = rd ps (j : Int) := fun i j hi => rd_app2 hs ps i j (by omega)
  have p0 : 0 ≤ rd ps 0 := by rw [hps]; exact dec_nonneg _ _ (bytesOf_byte _) 0
  obtain ⟨m, hm⟩ : ∃ m : Nat, (m : Int) = min (rd ps 0) 3 := ⟨(min (rd ps 0) 3).toNat, by omega⟩
  have fm : (List.range (min (rd ps 0) 3).toNat).map (cards_card2.spanAt (hs ++ ps)) = (List.range m).map (RR.span ps) := by
    rw [show (min (rd ps 0) 3).toNat = m by omega]
    refine List.map_congr_left fun j _ => ?_
    unfold cards_card2.spanAt RR.span
    rw [show (5 : Int) + 3 * (j : Int) = ((5 + 3 * j : Nat) : Int) by omega, show ((5 + 3 * j : Nat) : Int) + 1 = ((6 + 3 * j : Nat) : Int) by omega, show ((5 + 3 * j : Nat) : Int) + 2 = ((7 + 3 * j : Nat) : Int) by omega,
      g _ (1 + 3 * j) (by omega), g _ (2 + 3 * j) (by omega), g _ (3 + 3 * j) (by omega)]
    rfl
  rw [show rd (hs ++ ps) 0 = rd hs 0 from f 0 (by omega), show rd (hs ++ ps) 1 = rd hs 1 from f 1 (by omega), show rd (hs ++ ps) 2 = rd hs 2 from f 2 (by omega), show rd (hs ++ ps) 3 = rd hs 3 from f 3 (by omega), show rd (hs ++ ps) 4 = rd ps 0 from g 4 0 (by omega), show rd (hs ++ ps) 14 = rd ps 10 from g 14 10 (by omega), fm, h0] at e
  subst e
  have lt : ((List.range m).map (RR.span ps)).length = m := by rw [List.length_map, List.length_range]
  refine RR.two s h32 hs ps lh lp h0 p0 m hm _ _ (by rw [hhs]; exact ca s h32) (fun A c W hC hc => ⟨?_⟩) (fun A c W hC hc => ⟨?_⟩) _ w (fun h2 ht e w' hp => post_good s _ _ _ _ _ _ _ _ _ w h2 ht e w' hp) (fun hn e w' hp => post_bad s _ _ _ _ _ _ _ _ _ w hn e w' hp)
  · rw [hps]
    exact a_calls (s.extract 8 s.size) [1, 2, 2, 2, 2, 2, 2, 2, 2, 2, 2] 21 (by decide) (by rw [ByteArray.size_extract]; omega) rfl (by rw [ByteArray.size_extract]; omega) A c W hC hc
  · have := w_calls 2 (rd hs 1) (rd hs 2) (rd hs 3) none 0 [] 0 0 A c ((List.range m).map (RR.span ps)) (rd ps 10) W (nilC _ W) (Nat.le_refl _) (by rw [lt]; exact hC) (by omega) (by simp)
    rw [lt] at this
    exact this
theorem first_of (s : ByteArray) (h0 : (WR 0 0 0 0 [] 0 0 [] 0).1.toList = s.toList) : bt s 0 = 0 := by
  have e1 : (WR 0 0 0 0 [] 0 0 [] 0).1 = strOfNums (List.replicate 32 0) := by
    have hn : nn 0 0 0 0 [] 0 0 [] 0 = true := T_pos ⟨rfl, rfl, rfl, rfl, rfl, rfl, rfl, rfl, rfl⟩
    have hr : rt 0 0 0 0 [] 0 0 [] 0 = true := by unfold rt; rw [hn]; rfl
    unfold WR
    rw [if_pos hr, if_pos hn]
    rfl
  rw [e1, ByteArray.toList_eq, ByteArray.toList_eq] at h0
  have h2 := Go.WideShapes.bytes_inj h0
  rw [← h2, ← rd_bytesOf, str_bytes _ (fun b hb => by have := List.eq_of_mem_replicate hb; omega)]
  rfl
theorem wr_other (F K L S : Int) (h0 : ¬ F = 0) (h1 : ¬ F = 1) (h2 : ¬ F = 2) : (WR F K L S [] 0 0 [] 0).2 = 1 := by
  have hn : nn F K L S [] 0 0 [] 0 = false := T_neg (fun h => h0 h.1)
  have hr : rt F K L S [] 0 0 [] 0 = false := by unfold rt; rw [hn, decide_eq_false h1, decide_eq_false h2]; simp
  unfold WR
  rw [if_neg (by rw [hr]; decide)]
theorem ref_other (s : ByteArray) (h32 : s.size = 32) (h1 : ¬ bt s 0 = 1) (h2 : ¬ bt s 0 = 2) (w : World) (T : Tup) (hT : Ev (fun k => cards_Read.f k s) T) : Calls Try.prog 14 #[.string s] w (PostT T w) := by
  have h : (s.size : Int) = 32 := by omega
  obtain ⟨hs, hhs⟩ : ∃ hs, hs = dec [1, 1, 2, 4] (bytesOf s) := ⟨_, rfl⟩
  have lh : hs.length = 4 := by rw [hhs]; exact hs_len s
  have hz : rd hs 0 = bt s 0 := by rw [hhs, hs_zero s h]
  have e := ev_one hT (read_zero s h h1 h2)
  subst e
  by_cases h0 : bt s 0 = 0
  · refine RR.zero s h32 hs lh (hz.trans h0) _ _ (by rw [hhs]; exact ca s h32) (fun W => ⟨?_⟩) _ w (fun h2 ht e w' hp => post_good s _ _ _ _ _ _ _ _ _ w h2 ht e w' hp) (fun hn e w' hp => post_bad s _ _ _ _ _ _ _ _ _ w hn e w' hp)
    exact w_calls 0 0 0 0 none 0 [] 0 0 none 0 [] 0 W (nilC _ W) (Nat.le_refl _) (nilC _ W) (Nat.le_refl _) (by simp)
  · have hb : rdR s 0 0 0 0 [] 0 0 [] 0 = badT := by
      unfold rdR
      rw [if_neg (fun hh => h0 (first_of s hh.2))]
    rw [hb]
    refine RR.other_bad s h32 hs lh (by rw [hz]; exact h0) (by rw [hz]; exact h1) (by rw [hz]; exact h2) (WR (rd hs 0) (rd hs 1) (rd hs 2) (rd hs 3) [] 0 0 [] 0).1 (WR (rd hs 0) (rd hs 1) (rd hs 2) (rd hs 3) [] 0 0 [] 0).2 (by rw [hhs]; exact ca s h32) (fun W => ⟨?_⟩) (fun hh => ?_) w
    · exact w_calls (rd hs 0) (rd hs 1) (rd hs 2) (rd hs 3) none 0 [] 0 0 none 0 [] 0 W (nilC _ W) (Nat.le_refl _) (nilC _ W) (Nat.le_refl _) (by simp)
    · have := wr_other (rd hs 0) (rd hs 1) (rd hs 2) (rd hs 3) (by rw [hz]; exact h0) (by rw [hz]; exact h1) (by rw [hz]; exact h2)
      rw [this] at hh
      exact absurd hh.1 (by decide)
/-- The reference's reading, as a function: what the program's reading answers. -/
def r9_Read.f (k : Nat) (a0 : ByteArray) : Option (Int × Int × Int × Int × List Int × Int × Int × (List (S48)) × Int × Int) := cards_Read.f k a0
theorem r9_Read.mono : ∀ a0 k, LeO (r9_Read.f k a0) (r9_Read.f (k + 1) a0) := cards_Read.mono
theorem r9_Read.calls (k : Nat) (a0 : ByteArray) (r1 : Int) (r2 : Int) (r3 : Int) (r4 : Int) (r5 : List Int) (r6 : Int) (r7 : Int) (r8 : List (S48)) (r9 : Int) (r10 : Int) (w : World) (h : r9_Read.f k a0 = some (r1, r2, r3, r4, r5, r6, r7, r8, r9, r10)) :
    Calls Try.prog 14 #[.string a0] w fun e w' => ∃ v4_ v7_ : Value, e = .returned (.tuple #[.agg #[.int .i64 r1, .int .i64 r2, .int .i64 r3, .int .i64 r4, v4_, .int .i64 r6, .int .i64 r7, v7_, .int .i64 r9], .int .i64 r10]) ∧ Kd.R (Kd.int .i64) 3 w' w.heap.size (fun _ => True) v4_ r5 ∧ Kd.R k48 48 w' w.heap.size (fun _ => True) v7_ r8 ∧ Below w.heap.size w w' := by
  have hT : Ev (fun k => cards_Read.f k a0) (r1, r2, r3, r4, r5, r6, r7, r8, r9, r10) := Ev.of (cards_Read.mono a0) h
  by_cases h32 : a0.size = 32
  · by_cases h1 : bt a0 0 = 1
    · exact ref_one a0 h32 h1 w _ hT
    · by_cases h2 : bt a0 0 = 2
      · exact ref_two a0 h32 h2 w _ hT
      · exact ref_other a0 h32 h1 h2 w _ hT
  · have e := ev_one hT (read_bad a0 (by omega))
    have := ref_short a0 (by omega) w
    rw [← e] at this
    exact this
end Go.Proofs.Ytgigoogekimgkaa.GCrd
