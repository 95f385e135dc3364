/- Which cards are the same, in plain words, and that the program's answer and the document's are just these. Conditions: rows no longer than an int counts. -/
import Derived.Test.YtgigoogekimgkaaPlain
import Derived.Test.YtgigoogekimgkaaGCrdx2
import Derived.Test.YtgigoogekimgkaaGCrdx12
namespace Go.Proofs.Ytgigoogekimgkaa.Pure
open Go.RowKit Go.Proofs.Ytgigoogekimgkaa.GCrd Go.Proofs.YtgigoogekimgkaaW.PrintWords Go.Proofs.YtgigoogekimgkaaW.PrintLast Go.Proofs.YtgigoogekimgkaaW.PrintMore Go.Proofs.Ytgigoogekimgkaa.Plain
noncomputable def T (p : Prop) : Bool := @decide p (Classical.propDecidable p)
theorem T_pos {p : Prop} (h : p) : T p = true := by unfold T; exact @decide_eq_true p (Classical.propDecidable p) h
theorem T_neg {p : Prop} (h : ¬ p) : T p = false := by unfold T; exact @decide_eq_false p (Classical.propDecidable p) h
theorem T_iff {p q : Prop} (h : p ↔ q) : T p = T q := by rw [propext h]
theorem eq_loop {α : Type} (d : α) (l m : List α) (hl : l.length = m.length) (g : Nat → Int → Option Bool)
    (hpos : ∀ k (i : Nat), i < l.length → l.getD i d = m.getD i d → g (k + 1) (i : Int) = g k ((i + 1 : Nat) : Int))
    (hneg : ∀ k (i : Nat), i < l.length → ¬ l.getD i d = m.getD i d → g (k + 1) (i : Int) = some false)
    (hend : ∀ k, g (k + 1) (l.length : Int) = some true) : ∀ n i : Nat, l.length = i + n → Ev (fun k => g k (i : Int)) (T (l.drop i = m.drop i))
  | 0, i, h => by
    obtain rfl : i = l.length := by omega
    rw [T_pos (by rw [List.drop_length, hl, List.drop_length])]
    exact Ev.step (f := fun _ => some true) (fun k => hend k) (Ev.now _)
  | n + 1, i, h => by
    have hi : i < l.length := by omega
    have hm : i < m.length := by omega
    have e1 : l.drop i = l.getD i d :: l.drop (i + 1) := by rw [List.getD_eq_getElem?_getD, List.getElem?_eq_getElem hi]; exact List.drop_eq_getElem_cons hi
    have e2 : m.drop i = m.getD i d :: m.drop (i + 1) := by rw [List.getD_eq_getElem?_getD, List.getElem?_eq_getElem hm]; exact List.drop_eq_getElem_cons hm
    by_cases he : l.getD i d = m.getD i d
    · refine Ev.step (f := fun k => g k ((i + 1 : Nat) : Int)) (fun k => hpos k i hi he) ?_
      rw [T_iff (q := l.drop (i + 1) = m.drop (i + 1)) (by rw [e1, e2, he]; simp)]
      exact eq_loop d l m hl g hpos hneg hend n (i + 1) (by omega)
    · rw [T_neg (by rw [e1, e2]; intro h_; exact he (List.cons.inj h_).1)]
      exact Ev.step (f := fun _ => some false) (fun k => hneg k i hi he) (Ev.now _)
theorem len_ne {α : Type} {l m : List α} (h : ¬ (l.length : Int) = (m.length : Int)) : ¬ l = m := fun e => h (by rw [e])
theorem eqI_ev (l m : List Int) (hb : l.length ≤ 9223372036854775807) : Ev (fun k => sl_Eq.f k l m) (T (l = m)) := by
  unfold sl_Eq.f
  by_cases hl : (l.length : Int) = (m.length : Int)
  · simp only [if_pos hl]
    have hn : l.length = m.length := by omega
    refine eq_loop 0 l m hn (fun k i => sl_Eq.l0 k l m (l.length : Int) i) (fun k i hi he => ?_) (fun k i hi he => ?_) (fun k => ?_) l.length 0 (by omega)
    · simp only [sl_Eq.l0]
      rw [if_pos (by omega), if_pos (by omega), if_pos (by omega), if_pos (by omega), if_pos (show rd l (i : Int) = rd m (i : Int) by rw [rd_at, rd_at]; exact he), wrap_in _ (by omega) (by omega)]
      rfl
    · simp only [sl_Eq.l0]
      rw [if_pos (by omega), if_pos (by omega), if_pos (by omega), if_pos (by omega), if_neg (show ¬ rd l (i : Int) = rd m (i : Int) by rw [rd_at, rd_at]; exact he)]
    · simp only [sl_Eq.l0]
      rw [if_neg (by omega)]
  · simp only [if_neg hl]
    rw [T_neg (len_ne hl)]
    exact Ev.now _
theorem r01_ev (l m : List Int) (hb : l.length ≤ 9223372036854775807) : Ev (fun k => r1_Same.f k l m) (T (l = m)) := by
  unfold r1_Same.f
  by_cases hl : (l.length : Int) = (m.length : Int)
  · simp only [if_pos hl]
    have hn : l.length = m.length := by omega
    refine eq_loop 0 l m hn (fun k i => r1_Same.l0 k l m i) (fun k i hi he => ?_) (fun k i hi he => ?_) (fun k => ?_) l.length 0 (by omega)
    · simp only [r1_Same.l0]
      rw [if_pos (by omega), if_pos (by omega), if_pos (by omega), if_pos (show rd l (i : Int) = rd m (i : Int) by rw [rd_at, rd_at]; exact he), wrap_in _ (by omega) (by omega)]
      rfl
    · simp only [r1_Same.l0]
      rw [if_pos (by omega), if_pos (by omega), if_pos (by omega), if_neg (show ¬ rd l (i : Int) = rd m (i : Int) by rw [rd_at, rd_at]; exact he)]
    · simp only [r1_Same.l0]
      rw [if_neg (by omega)]
  · simp only [if_neg hl]
    rw [T_neg (len_ne hl)]
    exact Ev.now _
theorem span_ne (x y : S48) : (!(x.f0 == y.f0) || (!(x.f1 == y.f1) || !(x.f2 == y.f2))) = true ↔ ¬ x = y := by
  cases x; cases y
  simp only [Bool.or_eq_true, Bool.not_eq_true', beq_eq_false_iff_ne, S48.mk.injEq]
  omega
theorem eqS_ev (l m : List S48) (hb : l.length ≤ 9223372036854775807) : Ev (fun k => api_Span.f k l m) (T (l = m)) := by
  unfold api_Span.f
  by_cases hl : (l.length : Int) = (m.length : Int)
  · simp only [if_pos hl]
    have hn : l.length = m.length := by omega
    refine eq_loop z48 l m hn (fun k i => api_Span.l0 k l m (l.length : Int) i) (fun k i hi he => ?_) (fun k i hi he => ?_) (fun k => ?_) l.length 0 (by omega)
    · simp only [api_Span.l0]
      rw [if_pos (by omega), if_pos (by omega), if_pos (by omega), if_pos (by omega), if_neg (fun h_ => (span_ne _ _).1 h_ (by unfold rd_T48; rw [Int.toNat_natCast]; exact he)), wrap_in _ (by omega) (by omega)]
      rfl
    · simp only [api_Span.l0]
      rw [if_pos (by omega), if_pos (by omega), if_pos (by omega), if_pos (by omega), if_pos ((span_ne _ _).2 (by unfold rd_T48; rw [Int.toNat_natCast]; exact he))]
    · simp only [api_Span.l0]
      rw [if_neg (by omega)]
  · simp only [if_neg hl]
    rw [T_neg (len_ne hl)]
    exact Ev.now _
theorem r04_ev (l m : List S48) (hb : l.length ≤ 9223372036854775807) : Ev (fun k => r4_Same.f k l m) (T (l = m)) := by
  unfold r4_Same.f
  by_cases hl : (l.length : Int) = (m.length : Int)
  · simp only [if_pos hl]
    have hn : l.length = m.length := by omega
    refine eq_loop z48 l m hn (fun k i => r4_Same.l0 k l m i) (fun k i hi he => ?_) (fun k i hi he => ?_) (fun k => ?_) l.length 0 (by omega)
    · simp only [r4_Same.l0]
      rw [if_pos (by omega), if_pos (by omega), if_pos (by omega), if_neg (fun h_ => (span_ne _ _).1 h_ (by unfold rd_T48; rw [Int.toNat_natCast]; exact he)), wrap_in _ (by omega) (by omega)]
      rfl
    · simp only [r4_Same.l0]
      rw [if_pos (by omega), if_pos (by omega), if_pos (by omega), if_pos ((span_ne _ _).2 (by unfold rd_T48; rw [Int.toNat_natCast]; exact he))]
    · simp only [r4_Same.l0]
      rw [if_neg (by omega)]
  · simp only [if_neg hl]
    rw [T_neg (len_ne hl)]
    exact Ev.now _
section
variable (a0 a1 a2 a3 : Int) (l4 : List Int) (a5 a6 : Int) (l7 : List S48) (a8 : Int) (b0 b1 b2 b3 : Int) (m4 : List Int) (b5 b6 : Int) (m7 : List S48) (b8 : Int)
theorem same_ev (h4 : l4.length ≤ 9223372036854775807) (h7 : l7.length ≤ 9223372036854775807) : Ev (fun k => cards_Same.f k a0 a1 a2 a3 l4 a5 a6 l7 a8 b0 b1 b2 b3 m4 b5 b6 m7 b8) (T (a0 = b0 ∧ a1 = b1 ∧ a2 = b2 ∧ a3 = b3 ∧ l4 = m4 ∧ a5 = b5 ∧ a6 = b6 ∧ l7 = m7 ∧ a8 = b8)) := by
  unfold cards_Same.f
  refine Ev.bind (eqI_ev l4 m4 h4) ?_
  by_cases e4 : l4 = m4
  · simp only [T_pos e4, if_true]
    refine Ev.bind (eqS_ev l7 m7 h7) ?_
    by_cases e7 : l7 = m7
    · simp only [T_pos e7, if_true]
      have : T (a0 = b0 ∧ a1 = b1 ∧ a2 = b2 ∧ a3 = b3 ∧ l4 = m4 ∧ a5 = b5 ∧ a6 = b6 ∧ l7 = m7 ∧ a8 = b8) = (a0 == b0 && (a1 == b1 && (a2 == b2 && (a3 == b3 && (a5 == b5 && (a6 == b6 && a8 == b8)))))) := by
        by_cases h : a0 = b0 ∧ a1 = b1 ∧ a2 = b2 ∧ a3 = b3 ∧ l4 = m4 ∧ a5 = b5 ∧ a6 = b6 ∧ l7 = m7 ∧ a8 = b8
        · rw [T_pos h]
          obtain ⟨rfl, rfl, rfl, rfl, _, rfl, rfl, _, rfl⟩ := h
          simp
        · rw [T_neg h]
          symm
          rw [Bool.eq_false_iff]
          intro hh
          simp only [Bool.and_eq_true, beq_iff_eq] at hh
          obtain ⟨h0, h1, h2, h3, h5, h6, h8⟩ := hh
          exact h ⟨h0, h1, h2, h3, e4, h5, h6, e7, h8⟩
      rw [this]
      exact Ev.now _
    · simp only [T_neg e7, Bool.false_eq_true, if_false]
      rw [T_neg (fun h => e7 h.2.2.2.2.2.2.2.1)]
      exact Ev.now _
  · simp only [T_neg e4, Bool.false_eq_true, if_false]
    rw [T_neg (fun h => e4 h.2.2.2.2.1)]
    exact Ev.now _
theorem rsame_ev (h4 : l4.length ≤ 9223372036854775807) (h7 : l7.length ≤ 9223372036854775807) : Ev (fun k => r9_Same.f k a0 a1 a2 a3 l4 a5 a6 l7 a8 b0 b1 b2 b3 m4 b5 b6 m7 b8) (T (a0 = b0 ∧ a1 = b1 ∧ a2 = b2 ∧ a3 = b3 ∧ l4 = m4 ∧ a5 = b5 ∧ a6 = b6 ∧ l7 = m7 ∧ a8 = b8)) := by
  unfold r9_Same.f
  by_cases e0 : a0 = b0
  · by_cases e1 : a1 = b1
    · by_cases e2 : a2 = b2
      · by_cases e3 : a3 = b3
        · simp only [if_pos e0, if_pos e1, if_pos e2, if_pos e3]
          refine Ev.bind (r01_ev l4 m4 h4) ?_
          by_cases e4 : l4 = m4
          · simp only [T_pos e4, if_true]
            by_cases e5 : a5 = b5
            · by_cases e6 : a6 = b6
              · simp only [if_pos e5, if_pos e6]
                refine Ev.bind (r04_ev l7 m7 h7) ?_
                by_cases e7 : l7 = m7
                · simp only [T_pos e7, if_true]
                  by_cases e8 : a8 = b8
                  · rw [T_pos ⟨e0, e1, e2, e3, e4, e5, e6, e7, e8⟩, show (a8 == b8) = true from beq_iff_eq.2 e8]
                    exact Ev.now _
                  · rw [T_neg (fun h => e8 h.2.2.2.2.2.2.2.2), show (a8 == b8) = false from beq_eq_false_iff_ne.2 e8]
                    exact Ev.now _
                · simp only [T_neg e7, Bool.false_eq_true, if_false]
                  rw [T_neg (fun h => e7 h.2.2.2.2.2.2.2.1)]
                  exact Ev.now _
              · simp only [if_pos e5, if_neg e6]
                rw [T_neg (fun h => e6 h.2.2.2.2.2.2.1)]
                exact Ev.now _
            · simp only [if_neg e5]
              rw [T_neg (fun h => e5 h.2.2.2.2.2.1)]
              exact Ev.now _
          · simp only [T_neg e4, Bool.false_eq_true, if_false]
            rw [T_neg (fun h => e4 h.2.2.2.2.1)]
            exact Ev.now _
        · simp only [if_pos e0, if_pos e1, if_pos e2, if_neg e3]
          rw [T_neg (fun h => e3 h.2.2.2.1)]
          exact Ev.now _
      · simp only [if_pos e0, if_pos e1, if_neg e2]
        rw [T_neg (fun h => e2 h.2.2.1)]
        exact Ev.now _
    · simp only [if_pos e0, if_neg e1]
      rw [T_neg (fun h => e1 h.2.1)]
      exact Ev.now _
  · simp only [if_neg e0]
    rw [T_neg (fun h => e0 h.1)]
    exact Ev.now _
end
end Go.Proofs.Ytgigoogekimgkaa.Pure
