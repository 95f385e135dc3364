/- The plain law behind PathsBack: the names of a path come to it again. Conditions: none. -/
import Derived.Test.YtahjalabhlakaacDoorPurePathsParents
import Derived.Test.YtahjalabhlakaacDoorGPthx4
namespace Go.Proofs.YtahjalabhlakaacDoor.Pure
open Go.RowKit Go.Proofs.YtahjalabhlakaacDoor.GPth Go.Proofs.YtahjalabhlakaacDoorW.PrintWords Go.Proofs.YtahjalabhlakaacDoorW.PrintLast Go.Proofs.YtahjalabhlakaacDoorW.PrintMore Go.Proofs.YtahjalabhlakaacDoor.Plain
theorem jn_splc : ∀ (r cur : List UInt8), jn (splc cur r) = 47 :: cur ++ r
  | [], cur => by simp [splc, jn, Lib.join_one]
  | b :: r, cur => by
    unfold splc
    by_cases hb : b = 47
    · rw [if_pos hb, jn_cons, fl_cons, hb]
      have ih := jn_splc r []
      cases hs : splc [] r with
      | nil => exact absurd hs (splc_ne r [])
      | cons y L => rw [hs, jn_cons] at ih; rw [ih]; simp
    · rw [if_neg hb, jn_splc r (cur ++ [b])]; simp
theorem splc_name : ∀ (x cur r : List UInt8), (47 : UInt8) ∉ x → splc cur (x ++ r) = splc (cur ++ x) r
  | [], cur, r, _ => by simp
  | b :: x, cur, r, h => by
    have hb : b ≠ 47 := fun e => h (by simp [e])
    rw [List.cons_append, splc, if_neg hb, splc_name x (cur ++ [b]) r (fun e => h (by simp [e]))]
    simp
theorem splc_fl : ∀ (L : List (List UInt8)) (cur : List UInt8), L.all okn = true → splc cur (fl L) = cur :: L
  | [], cur, _ => by simp [fl, Lib.joinTail, splc]
  | x :: L, cur, h => by
    simp only [List.all_cons, Bool.and_eq_true] at h
    rw [fl_cons, List.cons_append, splc, if_pos rfl, splc_name x [] (fl L) (okn_47 h.1), List.nil_append, splc_fl L x h.2]
/-- What is joined is split into the same names. -/
theorem spS_jn (L : List (List UInt8)) (h : L.all okn = true) (hl : (jn L).length ≤ 255) : spS (jn L) = (L.map B, 0) := by
  cases L with
  | nil => rfl
  | cons x L =>
    have h2 := h
    simp only [List.all_cons, Bool.and_eq_true] at h2
    have hx := okn_len h2.1
    have e : jn (x :: L) = 47 :: (x ++ fl L) := by rw [jn_cons, fl_cons]; simp
    rw [e] at hl ⊢
    have hne : x ++ fl L ≠ [] := by
      intro e
      have := congrArg List.length e
      rw [List.length_append, List.length_nil] at this
      omega
    simp only [spS]
    rw [if_pos trivial, if_neg (by rw [List.length_cons] at hl; omega), if_neg hne]
    have hs : splc [] (x ++ fl L) = x :: L := by rw [splc_name x [] (fl L) (okn_47 h2.1), List.nil_append, splc_fl L x h2.2]
    rw [hs, if_pos h]
/-- A path that may be is its names, joined. -/
theorem spS_ok {l : List UInt8} (h : (spS l).2 = 0) : ∃ L : List (List UInt8), spS l = (L.map B, 0) ∧ L.all okn = true ∧ jn L = l ∧ l.length ≤ 255 := by
  cases l with
  | nil => simp [spS] at h
  | cons b r =>
    simp only [spS] at h ⊢
    by_cases hb : b = 47
    · rw [if_pos hb] at h ⊢
      by_cases h1 : 255 < r.length + 1
      · rw [if_pos h1] at h; simp at h
      · rw [if_neg h1] at h ⊢
        by_cases h2 : r = []
        · rw [if_pos h2]
          exact ⟨[], rfl, rfl, by simp [jn, Lib.join_nil, hb, h2], by simp; omega⟩
        · rw [if_neg h2] at h ⊢
          by_cases h3 : (splc [] r).all okn = true
          · rw [if_pos h3]
            exact ⟨splc [] r, rfl, h3, by rw [jn_splc, hb]; rfl, by simp; omega⟩
          · rw [if_neg h3] at h; simp at h
    · rw [if_neg hb] at h; simp at h
theorem jn_take (L : List (List UInt8)) (h : L.all okn = true) (n : Nat) : (jn (L.take n)).length ≤ (jn L).length := by
  have key : ∀ (L : List (List UInt8)) (n : Nat), (fl (L.take n)).length ≤ (fl L).length := by
    intro L
    induction L with
    | nil => intro n; simp
    | cons x L ih =>
      intro n
      cases n with
      | zero => simp [fl, Lib.joinTail]
      | succ n =>
        have := ih n
        rw [List.take_succ_cons, fl_cons, fl_cons]
        simp
        omega
  cases L with
  | nil => simp
  | cons x L =>
    cases n with
    | zero => rw [jn_cons, fl_cons]; simp [jn, Lib.join_nil]
    | succ n => rw [List.take_succ_cons, jn_cons, jn_cons, ← List.take_succ_cons]; exact key (x :: L) (n + 1)
theorem spU_of {a b : List UInt8} {L M : List (List UInt8)} (ha : spS a = (L.map B, 0)) (hb : spS b = (M.map B, 0)) : spU a b = (decide (L.length ≤ M.length) && decide (L.map B = (M.map B).take L.length)) := by
  unfold spU
  rw [ha, hb]
  simp
theorem PathsBack : wainwrightlaw06_PathsBack.Pure := by
  intro a0 h0
  refine Ev.rounds (Ev.bind lives_ev ?_)
  simp only [if_true]
  refine Ev.bind (split_ev a0) ?_
  by_cases he : (spS a0.data.toList).2 = 0
  · obtain ⟨L, hs, ha, hj, hl⟩ := spS_ok he
    have hz := all_len ha
    have hL : L.length ≤ 255 := by have := spS_len a0.data.toList; rw [hs] at this; simpa using this
    have hjl : (jn L).length ≤ 255 := by rw [hj]; exact hl
    simp only [hs, if_true]
    have ej : paths_Join.f (L.map B) = some (a0, 0) := by
      rw [join_eq L (by omega) (by omega) (fun x hx => by have := hz x hx; omega)]
      unfold spJ
      rw [if_pos ha, if_neg (by omega), hj, B_of]
    rw [ej]
    simp only [Option.bind_some]
    refine Ev.bind (parent_ev a0) ?_
    have hlI : ((L.map B).length : Int) = (L.length : Int) := by simp
    unfold spP
    rw [hs]
    simp only [if_true, hlI]
    by_cases hn : L.length = 0
    · rw [if_pos (show (L.map B).length = 0 by rw [List.length_map]; exact hn)]
      simp only [if_pos (show (L.length : Int) = 0 by omega)]
      exact Ev.now _
    · rw [if_neg (show ¬ (L.map B).length = 0 by rw [List.length_map]; exact hn)]
      simp only [if_neg (show ¬ (L.length : Int) = 0 by omega), wrap_in ((L.length : Int) - 1) (by omega) (by omega), if_pos (show 0 ≤ (L.length : Int) - 1 by omega), if_pos (show (L.length : Int) - 1 < (L.length : Int) by omega), List.length_map]
      have et : ((L.map B).take (L.length - 1)).map (·.data.toList) = L.take (L.length - 1) := by rw [← List.map_take, map_B]
      have hat := take_all ha (L.length - 1)
      have hjt := jn_take L ha (L.length - 1)
      have es : spJ (L.take (L.length - 1)) = (B (jn (L.take (L.length - 1))), 0) := by
        unfold spJ
        rw [if_pos hat, if_neg (by omega)]
      rw [et, es]
      have er : (L.map B).getD (L.length - 1) ByteArray.empty = rdOf ByteArray.empty (L.map B) ((L.length : Int) - 1) := by unfold rdOf; congr 1; omega
      simp only [er, if_true]
      have su := spS_jn (L.take (L.length - 1)) hat (by omega)
      have htl : (L.take (L.length - 1)).length = L.length - 1 := by simp
      have u1 : spU (B (jn (L.take (L.length - 1)))).data.toList a0.data.toList = true := by
        rw [B_data, spU_of su hs, htl, decide_eq_true (by omega), List.map_take]
        simp
      have u2 : spU a0.data.toList a0.data.toList = true := by
        rw [spU_of hs hs, List.take_of_length_le (by rw [List.length_map]; omega)]
        simp
      have u3 : spU a0.data.toList (B (jn (L.take (L.length - 1)))).data.toList = false := by
        rw [B_data, spU_of hs su, htl, decide_eq_false (by omega)]
        rfl
      refine Ev.bind (under_ev (B (jn (L.take (L.length - 1)))) a0) ?_
      rw [u1]
      simp only [if_true]
      refine Ev.bind (under_ev a0 a0) ?_
      rw [u2]
      simp only [if_true]
      refine Ev.bind (under_ev a0 (B (jn (L.take (L.length - 1))))) ?_
      rw [u3]
      exact Ev.now _
  · simp only [if_neg he]
    have hz : ((spS a0.data.toList).1.length : Int) = 0 := by
      cases hx : a0.data.toList with
      | nil => rfl
      | cons b r =>
        rw [hx] at he
        simp only [spS] at he ⊢
        split <;> try rfl
        split <;> try rfl
        split <;> try rfl
        split <;> try rfl
        rename_i h1 h2 h3 h4
        rw [if_pos h1, if_neg h2, if_neg h3, if_pos h4] at he
        exact absurd rfl he
    simp only [if_pos hz]
    refine Ev.bind (under_ev a0 a0) ?_
    have u : spU a0.data.toList a0.data.toList = false := by
      unfold spU
      rw [decide_eq_false he]
      rfl
    rw [u]
    exact Ev.now _
theorem PathsBack_walk (a0 : ByteArray) (W : World) (w0 : a0.size ≤ 140737488351232) :
    Calls Tryd.prog 6 #[.string a0] W fun e w' => e = .returned (.bool true) ∧ Below W.heap.size W w' := by
  obtain ⟨k, hk⟩ := PathsBack a0 w0
  exact wainwrightlaw06_PathsBack.calls k a0 true W hk
end Go.Proofs.YtahjalabhlakaacDoor.Pure
