/- Plain words: what a row of parts stands for (a star for any bytes, any other part for one byte); no program in sight. Conditions: as the theorems state them. -/
import Derived.RowKit
namespace Go.Proofs.YtefomcoimbnalaaDoor.Plain
section
variable {P : Type} (st : P → Bool) (one : P → UInt8 → Bool)
def M : List P → List UInt8 → Prop
  | [], n => n = []
  | p :: ps, n => if st p = true then ∃ j, j ≤ n.length ∧ M ps (n.drop j) else ∃ c cs, n = c :: cs ∧ one p c = true ∧ M ps cs
theorem M_star {p : P} {ps : List P} {n : List UInt8} (h : st p = true) : M st one (p :: ps) n ↔ ∃ j, j ≤ n.length ∧ M st one ps (n.drop j) := by
  rw [M, if_pos h]
theorem M_one {p : P} {ps : List P} {n : List UInt8} (h : st p = false) : M st one (p :: ps) n ↔ ∃ c cs, n = c :: cs ∧ one p c = true ∧ M st one ps cs := by
  rw [M, if_neg (by rw [h]; decide)]
theorem M_app : ∀ (A B : List P) (n : List UInt8), M st one (A ++ B) n ↔ ∃ k, k ≤ n.length ∧ M st one A (n.take k) ∧ M st one B (n.drop k)
  | [], B, n => by
    rw [List.nil_append]
    constructor
    · intro h
      exact ⟨0, Nat.zero_le _, by rw [M, List.take_zero], by rwa [List.drop_zero]⟩
    · rintro ⟨k, hk, h1, h2⟩
      rw [M] at h1
      have : n.length = 0 ∨ k = 0 := by
        have := congrArg List.length h1
        rw [List.length_take, List.length_nil] at this
        omega
      rcases this with h | h
      · obtain rfl : n = [] := List.eq_nil_of_length_eq_zero h
        rwa [List.drop_nil] at h2
      · rwa [h, List.drop_zero] at h2
  | p :: A, B, n => by
    rw [List.cons_append]
    cases hp : st p with
    | true =>
      rw [M_star st one hp]
      constructor
      · rintro ⟨j, hj, h⟩
        obtain ⟨k, hk, h1, h2⟩ := (M_app A B (n.drop j)).1 h
        rw [List.length_drop] at hk
        refine ⟨j + k, by omega, (M_star st one hp).2 ⟨j, by rw [List.length_take]; omega, ?_⟩, ?_⟩
        · rw [List.drop_take, show j + k - j = k by omega]; exact h1
        · rwa [List.drop_drop] at h2
      · rintro ⟨K, hK, h1, h2⟩
        obtain ⟨j, hj, h1⟩ := (M_star st one hp).1 h1
        rw [List.length_take] at hj
        refine ⟨j, by omega, (M_app A B (n.drop j)).2 ⟨K - j, by rw [List.length_drop]; omega, ?_, ?_⟩⟩
        · rwa [List.drop_take] at h1
        · rw [List.drop_drop, show j + (K - j) = K by omega]; exact h2
    | false =>
      rw [M_one st one hp]
      constructor
      · rintro ⟨c, cs, rfl, ho, h⟩
        obtain ⟨k, hk, h1, h2⟩ := (M_app A B cs).1 h
        exact ⟨k + 1, by rw [List.length_cons]; omega, (M_one st one hp).2 ⟨c, cs.take k, by rw [List.take_succ_cons], ho, h1⟩, by rwa [List.drop_succ_cons]⟩
      · rintro ⟨K, hK, h1, h2⟩
        obtain ⟨c, cs, e, ho, h1⟩ := (M_one st one hp).1 h1
        cases n with
        | nil => simp at e
        | cons d ds =>
          cases K with
          | zero => simp at e
          | succ K =>
            rw [List.take_succ_cons] at e
            obtain ⟨rfl, rfl⟩ := List.cons.inj e
            rw [List.length_cons] at hK
            exact ⟨d, ds, rfl, ho, (M_app A B ds).2 ⟨K, by omega, h1, by rwa [List.drop_succ_cons] at h2⟩⟩
theorem M_mono {p : P} {ps : List P} {n : List UInt8} {a b : Nat} (hp : st p = true) (hb : b ≤ a) (ha : a ≤ n.length) (h : M st one (p :: ps) (n.drop a)) : M st one (p :: ps) (n.drop b) := by
  obtain ⟨j, hj, h⟩ := (M_star st one hp).1 h
  rw [List.length_drop] at hj
  rw [List.drop_drop] at h
  exact (M_star st one hp).2 ⟨j + (a - b), by rw [List.length_drop]; omega, by rw [List.drop_drop, show b + (j + (a - b)) = a + j by omega]; exact h⟩
theorem M_seg : ∀ (seg rest : List P) (m : List UInt8), (∀ p ∈ seg, st p = false) → M st one (seg ++ rest) m → seg.length ≤ m.length ∧ M st one rest (m.drop seg.length)
  | [], rest, m, _, h => ⟨Nat.zero_le _, by simpa using h⟩
  | p :: seg, rest, m, hs, h => by
    rw [List.cons_append] at h
    obtain ⟨c, cs, rfl, _, h⟩ := (M_one st one (hs p (by simp))).1 h
    obtain ⟨h1, h2⟩ := M_seg seg rest cs (fun q hq => hs q (by simp [hq])) h
    exact ⟨by simp only [List.length_cons]; omega, by simpa using h2⟩
theorem M_nil : ∀ (ps : List P), M st one ps [] ↔ ps.all st = true
  | [] => by simp [M]
  | p :: ps => by
    cases hp : st p with
    | true =>
      rw [M_star st one hp, List.all_cons, hp, Bool.true_and, ← M_nil ps]
      exact ⟨fun ⟨j, _, h⟩ => by rwa [List.drop_nil] at h, fun h => ⟨0, Nat.le_refl _, by rwa [List.drop_nil]⟩⟩
    | false =>
      rw [M_one st one hp, List.all_cons, hp, Bool.false_and]
      exact ⟨fun ⟨c, cs, e, _⟩ => (by cases e), fun h => by cases h⟩
/-- What holds each time the loop comes round. -/
def Inv (l : List P) (n : List UInt8) (i k : Nat) (s : Int) (f : Nat) : Prop :=
  i ≤ l.length ∧ k ≤ n.length ∧ ((s = -1 ∧ f = 0 ∧ (M st one l n ↔ M st one (l.drop i) (n.drop k))) ∨
    ∃ t : Nat, s = (t : Int) ∧ t < i ∧ f ≤ k ∧ k - f = i - (t + 1) ∧ (∀ p ∈ (l.drop (t + 1)).take (i - (t + 1)), st p = false) ∧
      (M st one l n ↔ M st one (l.drop i) (n.drop k) ∨ ∃ j, f < j ∧ j ≤ n.length ∧ M st one (l.drop (t + 1)) (n.drop j)))
variable {st one}
variable {l : List P} {n : List UInt8} {i k f : Nat} {s : Int}
theorem Inv.start : Inv st one l n 0 0 (-1) 0 := ⟨Nat.zero_le _, Nat.zero_le _, Or.inl ⟨rfl, rfl, by rw [List.drop_zero, List.drop_zero]⟩⟩
theorem split_at {t i : Nat} (h : t ≤ i) : l.drop t = (l.drop t).take (i - t) ++ l.drop i := by
  have := (List.take_append_drop (i - t) (l.drop t)).symm
  rwa [List.drop_drop, show t + (i - t) = i by omega] at this
theorem alt_gone {t : Nat} (hti : t < i) (hfk : f ≤ k) (hkf : k - f = i - (t + 1)) (hi : i ≤ l.length) (hseg : ∀ p ∈ (l.drop (t + 1)).take (i - (t + 1)), st p = false) {j : Nat} (_hj : f < j) (h : M st one (l.drop (t + 1)) (n.drop j)) :
    j + (k - f) ≤ n.length ∨ (n.length < j ∧ k = f) := by
  rw [split_at (l := l) (show t + 1 ≤ i by omega)] at h
  have h1 := (M_seg st one _ _ _ hseg h).1
  rw [List.length_take, List.length_drop, List.length_drop] at h1
  omega
theorem Inv.star (h : Inv st one l n i k s f) (hi : i < l.length) (hs : st l[i] = true) : Inv st one l n (i + 1) k (i : Int) k := by
  obtain ⟨_, hk, h⟩ := h
  have e : l.drop i = l[i] :: l.drop (i + 1) := List.drop_eq_getElem_cons hi
  have key : M st one l n ↔ M st one (l.drop i) (n.drop k) := by
    rcases h with ⟨_, _, h⟩ | ⟨t, _, hti, hfk, hkf, hseg, h⟩
    · exact h
    · rw [h]
      refine ⟨fun h => ?_, Or.inl⟩
      rcases h with h | ⟨j, hj, hjn, h⟩
      · exact h
      · rw [split_at (l := l) (show t + 1 ≤ i by omega)] at h
        obtain ⟨h1, h2⟩ := M_seg st one _ _ _ hseg h
        have hlen : ((l.drop (t + 1)).take (i - (t + 1))).length = k - f := by rw [List.length_take, List.length_drop]; omega
        rw [hlen, List.length_drop] at h1
        rw [hlen, List.drop_drop, e] at h2
        rw [e]
        exact M_mono st one hs (by omega) (by omega) h2
  refine ⟨hi, hk, Or.inr ⟨i, rfl, by omega, Nat.le_refl _, by omega, fun p hp => ?_, ?_⟩⟩
  · rw [Nat.sub_self, List.take_zero] at hp; cases hp
  · rw [key, e, M_star st one hs]
    constructor
    · rintro ⟨j, hj, h⟩
      rw [List.length_drop] at hj
      rw [List.drop_drop] at h
      cases j with
      | zero => exact Or.inl h
      | succ j => exact Or.inr ⟨k + (j + 1), by omega, by omega, h⟩
    · rintro (h | ⟨j, hj, hjn, h⟩)
      · exact ⟨0, Nat.zero_le _, by rwa [List.drop_zero]⟩
      · exact ⟨j - k, by rw [List.length_drop]; omega, by rw [List.drop_drop, show k + (j - k) = j by omega]; exact h⟩
theorem Inv.byte (h : Inv st one l n i k s f) (hi : i < l.length) (hk : k < n.length) (hs : st l[i] = false) (ho : one l[i] n[k] = true) : Inv st one l n (i + 1) (k + 1) s f := by
  obtain ⟨_, _, h⟩ := h
  have e : l.drop i = l[i] :: l.drop (i + 1) := List.drop_eq_getElem_cons hi
  have en : n.drop k = n[k] :: n.drop (k + 1) := List.drop_eq_getElem_cons hk
  have key : M st one (l.drop i) (n.drop k) ↔ M st one (l.drop (i + 1)) (n.drop (k + 1)) := by
    rw [e, M_one st one hs, en]
    exact ⟨fun ⟨c, cs, e, _, h⟩ => by rw [(List.cons.inj e).2]; exact h, fun h => ⟨_, _, rfl, ho, h⟩⟩
  refine ⟨hi, hk, ?_⟩
  rcases h with ⟨h1, h2, h⟩ | ⟨t, h1, hti, hfk, hkf, hseg, h⟩
  · exact Or.inl ⟨h1, h2, h.trans key⟩
  · refine Or.inr ⟨t, h1, by omega, by omega, by omega, fun p hp => ?_, by rw [h, key]⟩
    rw [show i + 1 - (t + 1) = (i - (t + 1)) + 1 by omega, List.take_add_one] at hp
    rcases List.mem_append.1 hp with hp | hp
    · exact hseg p hp
    · have hg : (l.drop (t + 1))[i - (t + 1)]? = some l[i] := by
        rw [List.getElem?_drop, show t + 1 + (i - (t + 1)) = i by omega, List.getElem?_eq_getElem hi]
      rw [hg] at hp
      obtain rfl : p = l[i] := by simpa using hp
      exact hs
theorem miss (hk : k < n.length) (hm : ∀ hi : i < l.length, st l[i] = false ∧ one l[i] n[k] = false) (hil : i ≤ l.length) : ¬ M st one (l.drop i) (n.drop k) := by
  have en : n.drop k = n[k] :: n.drop (k + 1) := List.drop_eq_getElem_cons hk
  intro h
  by_cases hi : i < l.length
  · have e : l.drop i = l[i] :: l.drop (i + 1) := List.drop_eq_getElem_cons hi
    obtain ⟨h1, h2⟩ := hm hi
    rw [e] at h
    obtain ⟨c, cs, e2, ho, _⟩ := (M_one st one h1).1 h
    rw [en] at e2
    rw [← (List.cons.inj e2).1, h2] at ho
    cases ho
  · rw [List.drop_eq_nil_of_le (by omega), M] at h
    rw [h] at en
    cases en
theorem Inv.back {t : Nat} (h : Inv st one l n i k (t : Int) f) (hk : k < n.length) (hm : ∀ hi : i < l.length, st l[i] = false ∧ one l[i] n[k] = false) : Inv st one l n (t + 1) (f + 1) (t : Int) (f + 1) ∧ t < i ∧ f ≤ k := by
  obtain ⟨hi, _, h⟩ := h
  rcases h with ⟨h1, _⟩ | ⟨t', h1, hti, hfk, hkf, hseg, h⟩
  · omega
  · obtain rfl : t = t' := by omega
    refine ⟨⟨by omega, by omega, Or.inr ⟨t, rfl, by omega, Nat.le_refl _, by omega, fun p hp => ?_, ?_⟩⟩, hti, hfk⟩
    · rw [Nat.sub_self, List.take_zero] at hp; cases hp
    · rw [h]
      constructor
      · rintro (h | ⟨j, hj, hjn, h⟩)
        · exact absurd h (miss hk hm hi)
        · by_cases hj2 : j = f + 1
          · subst hj2; exact Or.inl h
          · exact Or.inr ⟨j, by omega, hjn, h⟩
      · rintro (h | ⟨j, hj, hjn, h⟩)
        · exact Or.inr ⟨f + 1, by omega, by omega, h⟩
        · exact Or.inr ⟨j, by omega, hjn, h⟩
theorem Inv.fail (h : Inv st one l n i k (-1) f) (hk : k < n.length) (hm : ∀ hi : i < l.length, st l[i] = false ∧ one l[i] n[k] = false) : ¬ M st one l n := by
  obtain ⟨hi, _, h⟩ := h
  rcases h with ⟨_, _, h⟩ | ⟨t, h1, _⟩
  · rw [h]; exact miss hk hm hi
  · omega
theorem Inv.stop (h : Inv st one l n i n.length s f) : M st one l n ↔ (l.drop i).all st = true := by
  obtain ⟨hi, _, h⟩ := h
  rcases h with ⟨_, _, h⟩ | ⟨t, h1, hti, hfk, hkf, hseg, h⟩
  · rw [h, List.drop_length, M_nil]
  · rw [h, List.drop_length, M_nil]
    refine ⟨fun h => ?_, Or.inl⟩
    rcases h with h | ⟨j, hj, hjn, h⟩
    · exact h
    · rcases alt_gone hti hfk hkf hi hseg hj h with h | h <;> omega
end
end Go.Proofs.YtefomcoimbnalaaDoor.Plain
