/- The parts of a pattern as ref28 finds them: where a set ends, what each part stands for. Plain: no program. Conditions: as the theorems state them. -/
import Derived.Test.YtefomcoimbnalaaDoorGl
namespace Go.Gl
open Go
/-- is a byte in a part's table? (a star's table is empty) -/
def pc (p : List UInt8) (c : Nat) : Bool := !stS p && onS p c.toUInt8
theorem idx_first : ∀ {l : List UInt8} {c : UInt8} {k : Nat}, l[k]? = some c → (∀ j, j < k → l[j]? ≠ some c) → Lib.indexByte l c = (k : Int)
  | [], _, _, h, _ => by simp at h
  | b :: l, c, 0, h, _ => by
    have : b = c := by simpa using h
    unfold Lib.indexByte
    rw [if_pos (by rw [this]; exact beq_self_eq_true c)]
    rfl
  | b :: l, c, k + 1, h, hno => by
    have hb : b ≠ c := by simpa using hno 0 (by omega)
    have := idx_first (l := l) (c := c) (k := k) (by simpa using h) (fun j hj => by simpa using hno (j + 1) (by omega))
    unfold Lib.indexByte
    rw [if_neg (by simpa using hb), this, if_neg (by simp)]
    omega
theorem idx_none : ∀ {l : List UInt8} {c : UInt8}, (∀ j : Nat, l[j]? ≠ some c) → Lib.indexByte l c = -1
  | [], _, _ => rfl
  | b :: l, c, hno => by
    have hb : b ≠ c := by simpa using hno 0
    have := idx_none (l := l) (c := c) (fun j => by simpa using hno (j + 1))
    unfold Lib.indexByte
    rw [if_neg (by simpa using hb), this]
    rfl
theorem cut_one {a : UInt8} {t : List UInt8} (h1 : a ≠ 92) (h2 : a ≠ 91) : cutS (a :: t) = some ([a], t) := by
  unfold cutS
  dsimp only
  rw [if_neg h1, if_neg h2]
theorem cut_two (b : UInt8) (r : List UInt8) : cutS (92 :: b :: r) = some ([92, b], r) := rfl
theorem cut_two0 : cutS [92] = none := rfl
theorem cut_br (t : List UInt8) : cutS (91 :: t) = if (91 :: t).length < skip t then none else if Lib.indexByte ((91 :: t).drop (skip t)) 93 < 0 then none else some ((91 :: t).take (skip t + (Lib.indexByte ((91 :: t).drop (skip t)) 93).toNat + 1), (91 :: t).drop (skip t + (Lib.indexByte ((91 :: t).drop (skip t)) 93).toNat + 1)) := by
  unfold cutS
  dsimp only
  rw [if_neg (by decide), if_pos rfl]
theorem cut_end {L t : List UInt8} {i e : Nat} (hd : L.drop i = 91 :: t) (hge : i + skip t ≤ e) (h93 : L[e]? = some 93) (hno : ∀ j, i + skip t ≤ j → j < e → L[j]? ≠ some 93) :
    cutS (L.drop i) = some ((L.drop i).take (e + 1 - i), L.drop (e + 1)) := by
  have hlt : e < L.length := (List.getElem?_eq_some_iff.1 h93).1
  have hl : (91 :: t).length = L.length - i := by rw [← hd, List.length_drop]
  have hi : Lib.indexByte ((91 :: t).drop (skip t)) 93 = ((e - (i + skip t) : Nat) : Int) := by
    rw [← hd, List.drop_drop]
    refine idx_first ?_ fun j hj => ?_
    · rw [List.getElem?_drop, show i + skip t + (e - (i + skip t)) = e by omega]; exact h93
    · rw [List.getElem?_drop]; exact hno _ (by omega) (by omega)
  rw [hd, cut_br, if_neg (by omega), hi, if_neg (by omega), Int.toNat_natCast, show skip t + (e - (i + skip t)) + 1 = e + 1 - i by omega, ← hd, List.drop_drop, show i + (e + 1 - i) = e + 1 by omega]
theorem cut_none {L t : List UInt8} {i : Nat} (hd : L.drop i = 91 :: t) (hno : ∀ j, i + skip t ≤ j → L[j]? ≠ some 93) : cutS (L.drop i) = none := by
  have hi : Lib.indexByte ((91 :: t).drop (skip t)) 93 = -1 := by
    rw [← hd, List.drop_drop]
    refine idx_none fun j => ?_
    rw [List.getElem?_drop]; exact hno _ (by omega)
  rw [hd, cut_br, hi]
  split
  · rfl
  · rfl
theorem u8c (c : Nat) (h : c < 256) (b : UInt8) : (some b == some c.toUInt8) = decide (c = b.toNat) := by
  have hc : c.toUInt8.toNat = c := by simp [Nat.toUInt8]; omega
  by_cases e : b = c.toUInt8
  · subst e; rw [hc]; simp
  · rw [beq_eq_false_iff_ne.2 (fun h => e (Option.some.inj h)), decide_eq_false]
    intro h; subst h; apply e; simp
theorem st_star : stS [42] = true := rfl
theorem pc_star (c : Nat) : pc [42] c = false := rfl
theorem st_any : stS [63] = false := rfl
theorem pc_any (c : Nat) : pc [63] c = true := rfl
theorem st_two (b : UInt8) : stS [92, b] = false := rfl
theorem pc_two (b : UInt8) (c : Nat) (h : c < 256) : pc [92, b] c = decide (c = b.toNat) := by
  show (true && (some b == some c.toUInt8)) = _
  rw [Bool.true_and, u8c c h]
theorem st_one {a : UInt8} (h : a ≠ 42) : stS [a] = false := by
  unfold stS
  rw [beq_eq_false_iff_ne]
  intro e; cases e; exact h rfl
theorem pc_one {a : UInt8} (h : a ≠ 42) (h1 : a ≠ 63) (h2 : a ≠ 91) (c : Nat) (hc : c < 256) : pc [a] c = decide (c = a.toNat) := by
  unfold pc
  rw [st_one h, ← u8c c hc]
  show (true && onS [a] c.toUInt8) = _
  unfold onS
  rw [if_neg (by simp [h1]), if_neg (by simp [h2])]
  rfl
theorem st_set {u : List UInt8} : stS (91 :: u) = false := rfl
theorem pc_set {u : List UInt8} (c : Nat) : pc (91 :: u) c = setB u.dropLast c.toUInt8 := rfl
/-- the text that a set is read from -/
theorem set_text {L t : List UInt8} {i e : Nat} (hd : L.drop i = 91 :: t) (hi : i < e) (he : e < L.length) : ∃ u, (L.drop i).take (e + 1 - i) = 91 :: u ∧ u.dropLast = (L.take e).drop (i + 1) := by
  refine ⟨t.take (e - i), by rw [hd, show e + 1 - i = (e - i) + 1 by omega, List.take_succ_cons], ?_⟩
  have ht : t = L.drop (i + 1) := by
    have := congrArg List.tail hd
    rw [List.tail_drop] at this
    exact this.symm
  have hl : t.length = L.length - (i + 1) := by rw [ht, List.length_drop]
  rw [List.dropLast_eq_take, List.length_take, List.take_take, show min (min (e - i) t.length - 1) (e - i) = e - (i + 1) by omega, ht, List.drop_take]
end Go.Gl
