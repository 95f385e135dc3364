/- Which cards may be, in plain words, and that the program's answer and the document's are just these. Conditions: rows no longer than a machine holds. -/
import Derived.Test.YtgigoogekimgkaaPureSame
import Derived.Test.YtgigoogekimgkaaGCrdx5
import Derived.Test.YtgigoogekimgkaaGCrdx14
namespace Go.Proofs.Ytgigoogekimgkaa.Pure
open Go.RowKit Go.Proofs.Ytgigoogekimgkaa.GCrd Go.Proofs.YtgigoogekimgkaaW.PrintWords Go.Proofs.YtgigoogekimgkaaW.PrintLast Go.Proofs.YtgigoogekimgkaaW.PrintMore Go.Proofs.Ytgigoogekimgkaa.Plain
abbrev SP := S48
def sm (x : Int) : Bool := decide (0 ≤ x) && decide (x ≤ 65535)
def spOk (s : SP) : Bool := decide (0 ≤ s.f0 ∧ 1 ≤ s.f1 ∧ 1 ≤ s.f2 ∧ s.f2 < 65536 ∧ s.f0 ≤ 65536 - s.f2 ∧ s.f1 ≤ 65536 - s.f2)
def nxOk (q s : SP) : Bool := decide (q.f0 + q.f2 ≤ s.f0 ∧ ¬ (q.f0 + q.f2 = s.f0 ∧ q.f1 + q.f2 = s.f1))
def spsOk : Option SP → List SP → Bool
  | _, [] => true
  | none, s :: r => spOk s && spsOk (some s) r
  | some q, s :: r => spOk s && (nxOk q s && spsOk (some s) r)
def prev (l : List SP) (i : Nat) : Option SP := if i = 0 then none else some (l.getD (i - 1) z48)
theorem rdT (l : List SP) (i : Nat) : rd_T48 l (i : Int) = l.getD i z48 := by unfold rd_T48; rw [Int.toNat_natCast]
theorem drop_T (l : List SP) (i : Nat) (h : i < l.length) : l.drop i = l.getD i z48 :: l.drop (i + 1) := by
  rw [List.getD_eq_getElem?_getD, List.getElem?_eq_getElem h]; exact List.drop_eq_getElem_cons h
theorem spOk_iff {s : SP} : spOk s = true ↔ 0 ≤ s.f0 ∧ 1 ≤ s.f1 ∧ 1 ≤ s.f2 ∧ s.f2 < 65536 ∧ s.f0 ≤ 65536 - s.f2 ∧ s.f1 ≤ 65536 - s.f2 := by unfold spOk; exact decide_eq_true_iff
theorem spOk_no {s : SP} : spOk s = false ↔ ¬ (0 ≤ s.f0 ∧ 1 ≤ s.f1 ∧ 1 ≤ s.f2 ∧ s.f2 < 65536 ∧ s.f0 ≤ 65536 - s.f2 ∧ s.f1 ≤ 65536 - s.f2) := by unfold spOk; exact decide_eq_false_iff_not
theorem odd_sp (s : SP) : spans_odd.f s.f0 s.f1 s.f2 = some (!spOk s) := by
  unfold spans_odd.f
  by_cases h0 : s.f0 < 0
  · rw [if_pos h0, spOk_no.2 (by omega)]; rfl
  · rw [if_neg h0]
    by_cases h1 : s.f1 < 1
    · rw [if_pos h1, spOk_no.2 (by omega)]; rfl
    · rw [if_neg h1]
      by_cases h2 : s.f2 < 1
      · rw [if_pos h2, spOk_no.2 (by omega)]; rfl
      · rw [if_neg h2]
        by_cases h3 : s.f2 ≥ 65536
        · rw [if_pos h3, spOk_no.2 (by omega)]; rfl
        · rw [if_neg h3, wrap_in _ (by omega) (by omega)]
          by_cases h4 : s.f0 > 65536 - s.f2
          · rw [if_pos h4, spOk_no.2 (by omega)]; rfl
          · rw [if_neg h4]
            by_cases h5 : s.f1 > 65536 - s.f2
            · rw [decide_eq_true h5, spOk_no.2 (by omega)]; rfl
            · rw [decide_eq_false h5, spOk_iff.2 (by omega)]; rfl
theorem joins_sp (q s : SP) (hq : spOk q = true) : spans_joins.f q.f0 q.f1 q.f2 s.f0 s.f1 s.f2 = some (decide (q.f0 + q.f2 = s.f0 ∧ q.f1 + q.f2 = s.f1)) := by
  have h := spOk_iff.1 hq
  unfold spans_joins.f
  rw [wrap_in (q.f0 + q.f2) (by omega) (by omega), wrap_in (q.f1 + q.f2) (by omega) (by omega)]
  by_cases h0 : q.f0 + q.f2 = s.f0
  · rw [if_pos h0]
    by_cases h1 : q.f1 + q.f2 = s.f1
    · rw [decide_eq_true ⟨h0, h1⟩, beq_iff_eq.2 h1]
    · rw [decide_eq_false (fun h => h1 h.2), beq_eq_false_iff_ne.2 h1]
  · rw [if_neg h0, decide_eq_false (fun h => h0 h.1)]
theorem nx_iff {q s : SP} : nxOk q s = true ↔ q.f0 + q.f2 ≤ s.f0 ∧ ¬ (q.f0 + q.f2 = s.f0 ∧ q.f1 + q.f2 = s.f1) := by unfold nxOk; exact decide_eq_true_iff
theorem nx_no {q s : SP} : nxOk q s = false ↔ ¬ (q.f0 + q.f2 ≤ s.f0 ∧ ¬ (q.f0 + q.f2 = s.f0 ∧ q.f1 + q.f2 = s.f1)) := by unfold nxOk; exact decide_eq_false_iff_not
theorem prev_s (l : List SP) (i : Nat) : prev l (i + 1) = some (l.getD i z48) := by unfold prev; rw [if_neg (by omega), Nat.add_sub_cancel]
theorem spans_loop (l : List SP) (hl : l.length ≤ 9223372036854775807) : ∀ (n i : Nat), l.length = i + n → (∀ q, prev l i = some q → spOk q = true) → Ev (fun k => spans_Right.l0 k l l (l.length : Int) (i : Int)) (spsOk (prev l i) (l.drop i))
  | 0, i, h, _ => by
    rw [List.drop_eq_nil_of_le (by omega), spsOk]
    refine Ev.step (f := fun _ => some true) (fun k => ?_) (Ev.now _)
    simp only [spans_Right.l0]
    rw [if_neg (by omega)]
  | n + 1, i, h, hq => by
    have hi : i < l.length := by omega
    have wi : wrap64 ((i : Int) + 1) = ((i + 1 : Nat) : Int) := by rw [wrap_in _ (by omega) (by omega)]; omega
    rw [drop_T l i hi]
    have nxt : spOk (l.getD i z48) = true → Ev (fun k => spans_Right.l0 k l l (l.length : Int) ((i + 1 : Nat) : Int)) (spsOk (some (l.getD i z48)) (l.drop (i + 1))) := fun hs => by
      have := spans_loop l hl n (i + 1) (by omega) (fun q hq => by rw [prev_s] at hq; rw [← Option.some.inj hq]; exact hs)
      rwa [prev_s] at this
    generalize hS : l.getD i z48 = s at *
    have hrd : rd_T48 l (i : Int) = s := by rw [rdT, hS]
    cases hs : spOk s with
    | false =>
      have e : spsOk (prev l i) (s :: l.drop (i + 1)) = false := by cases prev l i <;> simp [spsOk, hs]
      rw [e]
      refine Ev.step (f := fun _ => some false) (fun k => ?_) (Ev.now _)
      simp only [spans_Right.l0]
      rw [if_pos (by omega), if_pos (by omega), if_pos (by omega), hrd, odd_sp, hs, Option.bind_some, Bool.not_false, if_pos rfl]
    | true =>
      have nxt := nxt hs
      by_cases h0 : i = 0
      · subst h0
        have e : spsOk (prev l 0) (s :: l.drop (0 + 1)) = spsOk (some s) (l.drop (0 + 1)) := by simp [prev, spsOk, hs]
        rw [e]
        refine Ev.step (fun k => ?_) nxt
        simp only [spans_Right.l0]
        rw [if_pos (by omega), if_pos (by omega), if_pos (by omega), hrd, odd_sp, hs, Option.bind_some, Bool.not_true, if_neg (by decide), if_neg (by omega), wi]
      · obtain ⟨q, hpq⟩ : ∃ q, prev l i = some q := by unfold prev; rw [if_neg h0]; exact ⟨_, rfl⟩
        have hqk := hq q hpq
        have hb := spOk_iff.1 hqk
        have hqv : l.getD (i - 1) z48 = q := by unfold prev at hpq; rw [if_neg h0] at hpq; exact Option.some.inj hpq
        have wp : wrap64 ((i : Int) - 1) = ((i - 1 : Nat) : Int) := by rw [wrap_in _ (by omega) (by omega)]; omega
        have hrq : rd_T48 l ((i - 1 : Nat) : Int) = q := by rw [rdT, hqv]
        have wq : wrap64 (q.f0 + q.f2) = q.f0 + q.f2 := wrap_in _ (by omega) (by omega)
        have e : spsOk (prev l i) (s :: l.drop (i + 1)) = (nxOk q s && spsOk (some s) (l.drop (i + 1))) := by rw [hpq]; simp [spsOk, hs]
        rw [e]
        by_cases h1 : s.f0 < q.f0 + q.f2
        · rw [nx_no.2 (by omega), Bool.false_and]
          refine Ev.step (f := fun _ => some false) (fun k => ?_) (Ev.now _)
          simp only [spans_Right.l0]
          rw [if_pos (by omega), if_pos (by omega), if_pos (by omega), hrd, odd_sp, hs, Option.bind_some, Bool.not_true, if_neg (by decide), if_pos (by omega), wp, if_pos (by omega), if_pos (by omega), hrq, wq, if_pos h1]
        · by_cases h2 : q.f0 + q.f2 = s.f0 ∧ q.f1 + q.f2 = s.f1
          · rw [nx_no.2 (by intro h; exact h.2 h2), Bool.false_and]
            refine Ev.step (f := fun _ => some false) (fun k => ?_) (Ev.now _)
            simp only [spans_Right.l0]
            rw [if_pos (by omega), if_pos (by omega), if_pos (by omega), hrd, odd_sp, hs, Option.bind_some, Bool.not_true, if_neg (by decide), if_pos (by omega), wp, if_pos (by omega), if_pos (by omega), hrq, wq, if_neg h1, joins_sp q s hqk, decide_eq_true h2, Option.bind_some, if_pos rfl]
          · rw [nx_iff.2 ⟨by omega, h2⟩, Bool.true_and]
            refine Ev.step (fun k => ?_) nxt
            simp only [spans_Right.l0]
            rw [if_pos (by omega), if_pos (by omega), if_pos (by omega), hrd, odd_sp, hs, Option.bind_some, Bool.not_true, if_neg (by decide), if_pos (by omega), wp, if_pos (by omega), if_pos (by omega), hrq, wq, if_neg h1, joins_sp q s hqk, decide_eq_false h2, Option.bind_some, if_neg (by decide), wi]
theorem spans_ev (l : List SP) (hl : l.length ≤ 9223372036854775807) : Ev (fun k => spans_Right.f k l) (spsOk none l) := by
  have h := spans_loop l hl l.length 0 (by omega) (fun q h => by simp [prev] at h)
  rw [show prev l 0 = none from rfl, List.drop_zero] at h
  exact h
theorem bad_sp (s : SP) (J : Bool → Option Bool) : (if s.f0 < 0 then J true else (if s.f0 ≥ 65536 then J true else (if s.f1 < 1 then J true else (if s.f1 ≥ 65536 then J true else (if s.f2 < 1 then J true else (if s.f2 ≥ 65536 then J true else (if wrap64 (s.f0 + s.f2) > 65536 then J true else J (decide (wrap64 (s.f1 + s.f2) > 65536))))))))) = J (!spOk s) := by
  by_cases h0 : s.f0 < 0
  · rw [if_pos h0, spOk_no.2 (by omega)]; rfl
  rw [if_neg h0]
  by_cases h1 : s.f0 ≥ 65536
  · rw [if_pos h1, spOk_no.2 (by omega)]; rfl
  rw [if_neg h1]
  by_cases h2 : s.f1 < 1
  · rw [if_pos h2, spOk_no.2 (by omega)]; rfl
  rw [if_neg h2]
  by_cases h3 : s.f1 ≥ 65536
  · rw [if_pos h3, spOk_no.2 (by omega)]; rfl
  rw [if_neg h3]
  by_cases h4 : s.f2 < 1
  · rw [if_pos h4, spOk_no.2 (by omega)]; rfl
  rw [if_neg h4]
  by_cases h5 : s.f2 ≥ 65536
  · rw [if_pos h5, spOk_no.2 (by omega)]; rfl
  rw [if_neg h5, wrap_in (s.f0 + s.f2) (by omega) (by omega), wrap_in (s.f1 + s.f2) (by omega) (by omega)]
  by_cases h6 : s.f0 + s.f2 > 65536
  · rw [if_pos h6, spOk_no.2 (by omega)]; rfl
  rw [if_neg h6]
  by_cases h7 : s.f1 + s.f2 > 65536
  · rw [decide_eq_true h7, spOk_no.2 (by omega)]; rfl
  · rw [decide_eq_false h7, spOk_iff.2 (by omega)]; rfl
theorem r04_loop (l : List SP) (hl : l.length ≤ 9223372036854775807) : ∀ (n i : Nat), l.length = i + n → (∀ q, prev l i = some q → spOk q = true) → Ev (fun k => r4_Right.l0 k l (i : Int)) (spsOk (prev l i) (l.drop i))
  | 0, i, h, _ => by
    rw [List.drop_eq_nil_of_le (by omega), spsOk]
    refine Ev.step (f := fun _ => some true) (fun k => ?_) (Ev.now _)
    simp only [r4_Right.l0]
    rw [if_neg (by omega)]
  | n + 1, i, h, hq => by
    have hi : i < l.length := by omega
    have wi : wrap64 ((i : Int) + 1) = ((i + 1 : Nat) : Int) := by rw [wrap_in _ (by omega) (by omega)]; omega
    rw [drop_T l i hi]
    have nxt : spOk (l.getD i z48) = true → Ev (fun k => r4_Right.l0 k l ((i + 1 : Nat) : Int)) (spsOk (some (l.getD i z48)) (l.drop (i + 1))) := fun hs => by
      have := r04_loop l hl n (i + 1) (by omega) (fun q hq => by rw [prev_s] at hq; rw [← Option.some.inj hq]; exact hs)
      rwa [prev_s] at this
    generalize hS : l.getD i z48 = s at *
    have hrd : rd_T48 l (i : Int) = s := by rw [rdT, hS]
    refine Ev.step (f := fun k => r4_Right.j1 k l (i : Int) (!spOk s) s.f0 s.f1 s.f2) (fun k => ?_) ?_
    · simp only [r4_Right.l0]
      rw [if_pos (by omega), if_pos (by omega), hrd]
      exact bad_sp s (fun b => r4_Right.j1 k l (i : Int) b s.f0 s.f1 s.f2)
    cases hs : spOk s with
    | false =>
      have e : spsOk (prev l i) (s :: l.drop (i + 1)) = false := by cases prev l i <;> simp [spsOk, hs]
      rw [e]
      refine Ev.step (f := fun _ => some false) (fun k => ?_) (Ev.now _)
      simp only [r4_Right.j1, Bool.not_false]
      rw [if_pos trivial]
    | true =>
      have nxt := nxt hs
      by_cases h0 : i = 0
      · subst h0
        have e : spsOk (prev l 0) (s :: l.drop (0 + 1)) = spsOk (some s) (l.drop (0 + 1)) := by simp [prev, spsOk, hs]
        rw [e]
        refine Ev.step (fun k => ?_) nxt
        simp only [r4_Right.j1, Bool.not_true]
        rw [if_neg (by decide), if_pos (by omega), wi]
      · obtain ⟨q, hpq⟩ : ∃ q, prev l i = some q := by unfold prev; rw [if_neg h0]; exact ⟨_, rfl⟩
        have hb := spOk_iff.1 (hq q hpq)
        have hqv : l.getD (i - 1) z48 = q := by unfold prev at hpq; rw [if_neg h0] at hpq; exact Option.some.inj hpq
        have wp : wrap64 ((i : Int) - 1) = ((i - 1 : Nat) : Int) := by rw [wrap_in _ (by omega) (by omega)]; omega
        have hrq : rd_T48 l ((i - 1 : Nat) : Int) = q := by rw [rdT, hqv]
        have wq : wrap64 (q.f0 + q.f2) = q.f0 + q.f2 := wrap_in _ (by omega) (by omega)
        have wq1 : wrap64 (q.f1 + q.f2) = q.f1 + q.f2 := wrap_in _ (by omega) (by omega)
        have e : spsOk (prev l i) (s :: l.drop (i + 1)) = (nxOk q s && spsOk (some s) (l.drop (i + 1))) := by rw [hpq]; simp [spsOk, hs]
        rw [e]
        by_cases h1 : s.f0 < q.f0 + q.f2
        · rw [nx_no.2 (by omega), Bool.false_and]
          refine Ev.step (f := fun _ => some false) (fun k => ?_) (Ev.now _)
          simp only [r4_Right.j1, Bool.not_true]
          rw [if_neg (by decide), if_neg (by omega), wp, if_pos (by omega), if_pos (by omega), hrq, wq, if_pos h1]
        · by_cases h2 : s.f0 = q.f0 + q.f2
          · by_cases h3 : s.f1 = q.f1 + q.f2
            · rw [nx_no.2 (by intro h; exact h.2 ⟨h2.symm, h3.symm⟩), Bool.false_and]
              refine Ev.step (f := fun _ => some false) (fun k => ?_) (Ev.now _)
              simp only [r4_Right.j1, Bool.not_true]
              rw [if_neg (by decide), if_neg (by omega), wp, if_pos (by omega), if_pos (by omega), hrq, wq, wq1, if_neg h1, if_pos h2, if_pos h3]
            · rw [nx_iff.2 ⟨by omega, fun h => h3 h.2.symm⟩, Bool.true_and]
              refine Ev.step (fun k => ?_) nxt
              simp only [r4_Right.j1, Bool.not_true]
              rw [if_neg (by decide), if_neg (by omega), wp, if_pos (by omega), if_pos (by omega), hrq, wq, wq1, if_neg h1, if_pos h2, if_neg h3, wi]
          · rw [nx_iff.2 ⟨by omega, fun h => h2 h.1.symm⟩, Bool.true_and]
            refine Ev.step (fun k => ?_) nxt
            simp only [r4_Right.j1, Bool.not_true]
            rw [if_neg (by decide), if_neg (by omega), wp, if_pos (by omega), if_pos (by omega), hrq, wq, if_neg h1, if_neg h2, wi]
theorem r04r_ev (l : List SP) (hl : l.length ≤ 9223372036854775807) : Ev (fun k => r4_Right.f k l) (spsOk none l) := by
  have h := r04_loop l hl l.length 0 (by omega) (fun q h => by simp [prev] at h)
  rw [show prev l 0 = none from rfl, List.drop_zero] at h
  exact h
theorem odd_all : ∀ l : List Int, GOddI.l0 l = some (!(l.all sm))
  | [] => rfl
  | x :: r => by
    rw [GOddI.l0, List.all_cons, odd_all r]
    unfold cards_odd.f
    by_cases h0 : x < 0
    · rw [if_pos h0, Option.bind_some, if_pos rfl]
      have : sm x = false := by unfold sm; rw [decide_eq_false (by omega), Bool.false_and]
      rw [this]; rfl
    · rw [if_neg h0, Option.bind_some]
      by_cases h1 : x > 65535
      · rw [decide_eq_true h1, if_pos rfl]
        have : sm x = false := by unfold sm; rw [decide_eq_false (show ¬ x ≤ 65535 by omega), Bool.and_false]
        rw [this]; rfl
      · rw [decide_eq_false h1, if_neg (by decide)]
        have : sm x = true := by unfold sm; rw [decide_eq_true (show 0 ≤ x by omega), decide_eq_true (show x ≤ 65535 by omega)]; rfl
        rw [this, Bool.true_and]
theorem cat_ev (P Q : List Int) (h : P.length + Q.length < 17592186044416) : Ev (fun k => sl_Cc.f k [P, Q]) (P ++ Q) := by
  have e0 : rd_L2 [P, Q] 0 = P := rfl
  have e1 : rd_L2 [P, Q] 1 = Q := rfl
  have w1 : wrap64 (0 + (P.length : Int)) = (P.length : Int) := by rw [wrap_in _ (by omega) (by omega)]; omega
  have w2 : wrap64 ((P.length : Int) + (Q.length : Int)) = ((P.length + Q.length : Nat) : Int) := by rw [wrap_in _ (by omega) (by omega)]; omega
  have i1 : wrap64 ((0 : Int) + 1) = 1 := by rw [wrap_in _ (by omega) (by omega)]; rfl
  have i2 : wrap64 ((1 : Int) + 1) = 2 := by rw [wrap_in _ (by omega) (by omega)]; rfl
  have l2 : (([P, Q] : List (List Int)).length : Int) = 2 := rfl
  unfold sl_Cc.f
  rw [l2]
  refine Ev.step (f := fun k => sl_Cc.l0 k [P, Q] (P.length : Int) [P, Q] 2 1) (fun k => ?_) ?_
  · simp only [sl_Cc.l0]
    rw [if_pos (by decide), if_pos (by decide), l2, if_pos (by decide), e0, w1, if_neg (by omega), i1]
  refine Ev.step (f := fun k => sl_Cc.l0 k [P, Q] ((P.length + Q.length : Nat) : Int) [P, Q] 2 2) (fun k => ?_) ?_
  · simp only [sl_Cc.l0]
    rw [if_pos (by decide), if_pos (by decide), l2, if_pos (by decide), e1, w2, if_neg (by omega), i2]
  refine Ev.step (f := fun k => sl_Cc.l1 k [] [P, Q] 2 0) (fun k => ?_) ?_
  · simp only [sl_Cc.l0]
    rw [if_neg (by decide), GGrow.f, if_pos (by omega), if_pos (by omega), Option.bind_some, l2]
  refine Ev.step (f := fun k => sl_Cc.l1 k P [P, Q] 2 1) (fun k => ?_) ?_
  · simp only [sl_Cc.l1]
    rw [if_pos (by decide), if_pos (by decide), l2, if_pos (by decide), e0, if_pos (by rw [List.length_nil]; omega), List.nil_append, i1]
  refine Ev.step (f := fun k => sl_Cc.l1 k (P ++ Q) [P, Q] 2 2) (fun k => ?_) ?_
  · simp only [sl_Cc.l1]
    rw [if_pos (by decide), if_pos (by decide), l2, if_pos (by decide), e1, if_pos (by omega), i2]
  refine Ev.step (f := fun _ => some (P ++ Q)) (fun k => ?_) (Ev.now _)
  simp only [sl_Cc.l1]
  rw [if_neg (by decide)]
section
variable (F K L S : Int) (P : List Int) (S1 D : Int) (R : List SP) (O : Int)
def hd (n : Int) : Bool := decide ((K = 1 ∨ K = 2) ∧ 1 ≤ L ∧ L ≤ 200 ∧ 0 ≤ S ∧ S ≤ n)
noncomputable def nn : Bool := T (F = 0 ∧ K = 0 ∧ L = 0 ∧ S = 0 ∧ P = [] ∧ S1 = 0 ∧ D = 0 ∧ R = [] ∧ O = 0)
/-- Whether a card may be. -/
noncomputable def rt : Bool := nn F K L S P S1 D R O || ((P ++ [S1, D, O]).all sm && ((decide (F = 1) && (hd K L S 9728 && (decide ((P.length : Int) = 4) && (decide ((R.length : Int) = 0) && (O == 0))))) || (decide (F = 2) && (decide ((R.length : Int) ≤ 3) && (spsOk none R && ((decide (O = 0) || decide ((R.length : Int) = 3)) && (hd K L S 15360 && (decide ((P.length : Int) = 0) && (decide (S1 = 0) && (D == 0))))))))))
theorem head_eq (n : Int) (m : Int) (hm : wrap64 (128 * n) = m) : cards_head.f F K L S P S1 D R O n = some (hd K L S m) := by
  unfold cards_head.f hd
  rw [hm]
  by_cases k1 : K = 1
  · rw [if_pos k1]
    by_cases h1 : L ≥ 1
    · by_cases h2 : L ≤ 200
      · by_cases h3 : S ≥ 0
        · rw [if_pos h1, if_pos h2, if_pos h3]; congr 1; exact decide_eq_decide.2 ⟨fun h => ⟨Or.inl k1, h1, h2, h3, h⟩, fun h => h.2.2.2.2⟩
        · rw [if_pos h1, if_pos h2, if_neg h3, decide_eq_false (fun h => h3 h.2.2.2.1)]
      · rw [if_pos h1, if_neg h2, decide_eq_false (fun h => h2 h.2.2.1)]
    · rw [if_neg h1, decide_eq_false (fun h => h1 h.2.1)]
  · rw [if_neg k1]
    by_cases k2 : K = 2
    · rw [if_pos k2]
      by_cases h1 : L ≥ 1
      · by_cases h2 : L ≤ 200
        · by_cases h3 : S ≥ 0
          · rw [if_pos h1, if_pos h2, if_pos h3]; congr 1; exact decide_eq_decide.2 ⟨fun h => ⟨Or.inr k2, h1, h2, h3, h⟩, fun h => h.2.2.2.2⟩
          · rw [if_pos h1, if_pos h2, if_neg h3, decide_eq_false (fun h => h3 h.2.2.2.1)]
        · rw [if_pos h1, if_neg h2, decide_eq_false (fun h => h2 h.2.2.1)]
      · rw [if_neg h1, decide_eq_false (fun h => h1 h.2.1)]
    · rw [if_neg k2, decide_eq_false (fun h => by rcases h.1 with h | h; exact k1 h; exact k2 h)]
theorem w76 : wrap64 (128 * 76) = 9728 := by rw [wrap_in _ (by omega) (by omega)]; rfl
theorem w120 : wrap64 (128 * 120) = 15360 := by rw [wrap_in _ (by omega) (by omega)]; rfl
theorem right_ev (hP : P.length + 3 < 17592186044416) (hR : R.length ≤ 9223372036854775807) : Ev (fun k => cards_Right.f k F K L S P S1 D R O) (rt F K L S P S1 D R O) := by
  unfold cards_Right.f
  refine Ev.bind (cat_ev P [S1, D, O] (by simp only [List.length_cons, List.length_nil]; omega)) ?_
  have hnn : Ev (fun k => cards_none.f k F K L S P S1 D R O) (nn F K L S P S1 D R O) := by
    unfold cards_none.f
    exact Ev.bind (same_ev F K L S P S1 D R O 0 0 0 0 [] 0 0 [] 0 (by omega) hR) (Ev.now _)
  refine Ev.bind hnn ?_
  unfold rt
  cases hn : nn F K L S P S1 D R O with
  | true => simp only [if_true, Bool.true_or]; exact Ev.now _
  | false =>
    simp only [Bool.false_eq_true, if_false, GOddI.f, odd_all, Option.bind_some, Bool.false_or, head_eq F K L S P S1 D R O 76 9728 w76, head_eq F K L S P S1 D R O 120 15360 w120]
    cases hs : (P ++ [S1, D, O]).all sm with
    | false => simp only [Bool.not_false, if_true, Bool.false_and]; exact Ev.now _
    | true =>
      simp only [Bool.not_true, Bool.false_eq_true, if_false, Bool.true_and]
      by_cases h1 : F = 1
      · subst h1
        refine Ev.congr (f := fun _ => some _) (fun k => ?_) (Ev.now _)
        cases hd K L S 9728 <;> by_cases h4 : (P.length : Int) = 4 <;> by_cases h0 : R = [] <;> simp [h4, h0]
      · by_cases h2 : F = 2
        · subst h2
          simp only [if_true, decide_true, Bool.true_and]
          by_cases h3 : (R.length : Int) ≤ 3
          · simp only [if_pos h3]
            refine Ev.bind (spans_ev R hR) ?_
            refine Ev.congr (f := fun _ => some _) (fun k => ?_) (Ev.now _)
            cases spsOk none R <;> by_cases hO : O = 0 <;> cases hd K L S 15360 <;> by_cases h33 : (R.length : Int) = 3 <;> by_cases hp : P = [] <;> by_cases hS1 : S1 = 0 <;> simp [h3, hO, h33, hp, hS1]
          · simp only [if_neg h3]
            refine Ev.congr (f := fun _ => some _) (fun k => ?_) (Ev.now _)
            cases hd K L S 15360 <;> simp [h3]
        · simp only [if_neg h1, if_neg h2]
          refine Ev.congr (f := fun _ => some _) (fun k => ?_) (Ev.now _)
          simp [h1, h2]
theorem small_eq (x : Int) : r9_small.f x = some (sm x) := by
  unfold r9_small.f sm
  by_cases h : x ≥ 0
  · rw [if_pos h, decide_eq_true h, Bool.true_and]
  · rw [if_neg h, decide_eq_false h, Bool.false_and]
theorem rright_loop (hP : P.length ≤ 17592186044416) : ∀ (n i : Nat), P.length = i + n → Ev (fun k => r9_Right.l0 k (i : Int) F K L S P S1 D R O) ((P.drop i).all sm && (decide (S ≤ 9728) && (decide ((P.length : Int) = 4) && (sm S1 && (sm D && (decide ((R.length : Int) = 0) && (O == 0)))))))
  | 0, i, h => by
    rw [List.drop_eq_nil_of_le (by omega), List.all_nil, Bool.true_and]
    refine Ev.step (f := fun _ => some _) (fun k => ?_) (Ev.now _)
    simp only [r9_Right.l0]
    rw [if_neg (by omega)]
    simp only [small_eq, Option.bind_some]
    by_cases h1 : S ≤ 9728 <;> by_cases h4 : (P.length : Int) = 4 <;> cases sm S1 <;> cases sm D <;> by_cases h0 : R = [] <;> simp [h1, h4, h0]
  | n + 1, i, h => by
    have hi : i < P.length := by omega
    have wi : wrap64 ((i : Int) + 1) = ((i + 1 : Nat) : Int) := by rw [wrap_in _ (by omega) (by omega)]; omega
    have ih := rright_loop hP n (i + 1) (by omega)
    rw [drop_rd P i hi, List.all_cons]
    cases hs : sm (rd P i) with
    | false =>
      rw [Bool.false_and, Bool.false_and]
      refine Ev.step (f := fun _ => some false) (fun k => ?_) (Ev.now _)
      simp only [r9_Right.l0]
      rw [if_pos (by omega), if_pos (by omega), small_eq, hs, Option.bind_some, if_neg (by decide)]
    | true =>
      rw [Bool.true_and]
      refine Ev.step (fun k => ?_) ih
      simp only [r9_Right.l0]
      rw [if_pos (by omega), if_pos (by omega), small_eq, hs, Option.bind_some, if_pos rfl, wi]
theorem rright_ev (hP : P.length + 3 < 17592186044416) (hR : R.length ≤ 9223372036854775807) : Ev (fun k => r9_Right.f k F K L S P S1 D R O) (rt F K L S P S1 D R O) := by
  unfold r9_Right.f
  refine Ev.bind (rsame_ev F K L S P S1 D R O 0 0 0 0 [] 0 0 [] 0 (by omega) hR) ?_
  have hTn : T (F = 0 ∧ K = 0 ∧ L = 0 ∧ S = 0 ∧ P = [] ∧ S1 = 0 ∧ D = 0 ∧ R = [] ∧ O = 0) = nn F K L S P S1 D R O := rfl
  rw [hTn]
  unfold rt
  cases hn : nn F K L S P S1 D R O with
  | true => simp only [if_true, Bool.true_or]; exact Ev.now _
  | false =>
    simp only [Bool.false_eq_true, if_false, Bool.false_or]
    have hall : (P ++ [S1, D, O]).all sm = (P.all sm && (sm S1 && (sm D && sm O))) := by simp [List.all_append]
    rw [hall]
    -- what is left where the head may not be
    have bad : hd K L S 9728 = false → hd K L S 15360 = false → Ev (fun k => r9_Right.j0 k true F K L S P S1 D R O) (P.all sm && (sm S1 && (sm D && sm O)) && (decide (F = 1) && (hd K L S 9728 && (decide ((P.length : Int) = 4) && (decide ((R.length : Int) = 0) && (O == 0)))) || decide (F = 2) && (decide ((R.length : Int) ≤ 3) && (spsOk none R && ((decide (O = 0) || decide ((R.length : Int) = 3)) && (hd K L S 15360 && (decide ((P.length : Int) = 0) && (decide (S1 = 0) && (D == 0))))))))) := by
      intro e1 e2
      rw [e1, e2]
      refine Ev.step (f := fun _ => some false) (fun k => ?_) ?_
      · simp only [r9_Right.j0, if_true]
      · simp only [Bool.false_and, Bool.and_false, Bool.or_self]
        exact Ev.now _
    have hdn : ∀ m, ¬ ((K = 1 ∨ K = 2) ∧ 1 ≤ L ∧ L ≤ 200 ∧ 0 ≤ S) → hd K L S m = false := fun m h => by unfold hd; exact decide_eq_false (fun g => h ⟨g.1, g.2.1, g.2.2.1, g.2.2.2.1⟩)
    have good : (K = 1 ∨ K = 2) → 1 ≤ L → L ≤ 200 → Ev (fun k => r9_Right.j0 k (decide (S < 0)) F K L S P S1 D R O) (P.all sm && (sm S1 && (sm D && sm O)) && (decide (F = 1) && (hd K L S 9728 && (decide ((P.length : Int) = 4) && (decide ((R.length : Int) = 0) && (O == 0)))) || decide (F = 2) && (decide ((R.length : Int) ≤ 3) && (spsOk none R && ((decide (O = 0) || decide ((R.length : Int) = 3)) && (hd K L S 15360 && (decide ((P.length : Int) = 0) && (decide (S1 = 0) && (D == 0))))))))) := by
      intro hK h1 h2
      by_cases hS : S < 0
      · rw [decide_eq_true hS]
        exact bad (hdn _ (fun h => by omega)) (hdn _ (fun h => by omega))
      · rw [decide_eq_false hS]
        have hh : ∀ m, hd K L S m = decide (S ≤ m) := fun m => by unfold hd; exact decide_eq_decide.2 ⟨fun h => h.2.2.2.2, fun h => ⟨hK, h1, h2, by omega, h⟩⟩
        rw [hh, hh]
        by_cases f1 : F = 1
        · subst f1
          have h := rright_loop 1 K L S P S1 D R O (by omega) P.length 0 (by omega)
          rw [List.drop_zero] at h
          refine Ev.step (f := fun k => r9_Right.l0 k ((0 : Nat) : Int) 1 K L S P S1 D R O) (fun k => ?_) ?_
          · simp only [r9_Right.j0, Bool.false_eq_true, if_false, if_true]; rfl
          · refine Eq.mp (congrArg (Ev _) ?_) h
            cases P.all sm <;> cases sm S1 <;> cases sm D <;> by_cases g1 : S ≤ 9728 <;> by_cases g2 : (P.length : Int) = 4 <;> by_cases g3 : R = [] <;> by_cases g4 : O = 0 <;> simp [g1, g2, g3, g4, sm]
        · by_cases f2 : F = 2
          · subst f2
            by_cases g1 : S ≤ 15360
            · by_cases g2 : (P.length : Int) = 0
              · by_cases g3 : S1 = 0
                · by_cases g4 : D = 0
                  · by_cases g5 : (R.length : Int) ≤ 3
                    · refine Ev.step (f := fun k => (r4_Right.f k R).bind fun t => (if t = true then (if sm O = true then (if O = 0 then some true else some ((R.length : Int) == 3)) else some false) else some false)) (fun k => ?_) (Ev.bind (r04r_ev R hR) ?_)
                      · simp only [r9_Right.j0, Bool.false_eq_true, if_false, if_true, if_pos g1, if_pos g2, if_pos g3, if_pos g4, if_pos g5, small_eq, Option.bind_some]
                        rfl
                      · refine Ev.congr (f := fun _ => some _) (fun k => ?_) (Ev.now _)
                        have hPn : P = [] := List.eq_nil_of_length_eq_zero (by omega)
                        subst hPn g3 g4
                        cases spsOk none R <;> cases hO : sm O <;> by_cases g6 : O = 0 <;> by_cases g7 : (R.length : Int) = 3 <;> simp [g1, g5, g6, g7, sm] <;> simp_all [sm]
                    · refine Ev.step (f := fun _ => some false) (fun k => ?_) ?_
                      · simp only [r9_Right.j0, Bool.false_eq_true, if_false, if_true, if_pos g1, if_pos g2, if_pos g3, if_pos g4, if_neg g5]; rfl
                      · refine Ev.congr (f := fun _ => some _) (fun k => ?_) (Ev.now _)
                        simp [g5]
                  · refine Ev.step (f := fun _ => some false) (fun k => ?_) ?_
                    · simp only [r9_Right.j0, Bool.false_eq_true, if_false, if_true, if_pos g1, if_pos g2, if_pos g3, if_neg g4]; rfl
                    · refine Ev.congr (f := fun _ => some _) (fun k => ?_) (Ev.now _)
                      simp [g4]
                · refine Ev.step (f := fun _ => some false) (fun k => ?_) ?_
                  · simp only [r9_Right.j0, Bool.false_eq_true, if_false, if_true, if_pos g1, if_pos g2, if_neg g3]; rfl
                  · refine Ev.congr (f := fun _ => some _) (fun k => ?_) (Ev.now _)
                    simp [g3]
              · refine Ev.step (f := fun _ => some false) (fun k => ?_) ?_
                · simp only [r9_Right.j0, Bool.false_eq_true, if_false, if_true, if_pos g1, if_neg g2]; rfl
                · refine Ev.congr (f := fun _ => some _) (fun k => ?_) (Ev.now _)
                  simp [show ¬ P = [] from fun e => g2 (by rw [e]; rfl)]
            · refine Ev.step (f := fun _ => some false) (fun k => ?_) ?_
              · simp only [r9_Right.j0, Bool.false_eq_true, if_false, if_true, if_neg g1]; rfl
              · refine Ev.congr (f := fun _ => some _) (fun k => ?_) (Ev.now _)
                simp [g1]
          · refine Ev.step (f := fun _ => some false) (fun k => ?_) ?_
            · simp only [r9_Right.j0, Bool.false_eq_true, if_false, if_neg f1, if_neg f2]
            · refine Ev.congr (f := fun _ => some _) (fun k => ?_) (Ev.now _)
              simp [f1, f2]
    by_cases k1 : K = 1
    · simp only [if_pos k1]
      by_cases h1 : L < 1
      · simp only [if_pos h1]
        exact bad (hdn _ (fun h => by omega)) (hdn _ (fun h => by omega))
      · by_cases h2 : L > 200
        · simp only [if_neg h1, if_pos h2]
          exact bad (hdn _ (fun h => by omega)) (hdn _ (fun h => by omega))
        · simp only [if_neg h1, if_neg h2]
          exact good (Or.inl k1) (by omega) (by omega)
    · by_cases k2 : K = 2
      · simp only [if_neg k1, if_pos k2]
        by_cases h1 : L < 1
        · simp only [if_pos h1]
          exact bad (hdn _ (fun h => by omega)) (hdn _ (fun h => by omega))
        · by_cases h2 : L > 200
          · simp only [if_neg h1, if_pos h2]
            exact bad (hdn _ (fun h => by omega)) (hdn _ (fun h => by omega))
          · simp only [if_neg h1, if_neg h2]
            exact good (Or.inr k2) (by omega) (by omega)
      · simp only [if_neg k1, if_neg k2]
        exact bad (hdn _ (fun h => by omega)) (hdn _ (fun h => by omega))
end
end Go.Proofs.Ytgigoogekimgkaa.Pure
