/- Patterns, by definition: which bytes a set has, the parts of a pattern, which names it stands for. Plain: no program. Conditions: as the theorems state them. -/
import Derived.RowKit
import Derived.KernelRfl
import Derived.Lib.Bytealg
namespace Go.Gl
open Go Go.RowKit
/-- the bytes between [ and ], without the sign ahead of them -/
def rng (l : List UInt8) (c : UInt8) : Bool :=
  match l with
  | [] => false
  | lo :: t => if 2 ≤ t.length ∧ t[0]? = some 45 then (decide (lo ≤ c) && decide (c ≤ t.getD 1 0)) || rng (t.drop 2) c else (decide (lo ≤ c) && decide (c ≤ lo)) || rng t c
termination_by l.length
decreasing_by all_goals (simp; try omega)
theorem rng_nil (c : UInt8) : rng [] c = false := by rw [rng]
theorem rng_far {lo : UInt8} {t : List UInt8} (c : UInt8) (h : 2 ≤ t.length ∧ t[0]? = some 45) : rng (lo :: t) c = ((decide (lo ≤ c) && decide (c ≤ t.getD 1 0)) || rng (t.drop 2) c) := by rw [rng, if_pos h]
theorem rng_one {lo : UInt8} {t : List UInt8} (c : UInt8) (h : ¬ (2 ≤ t.length ∧ t[0]? = some 45)) : rng (lo :: t) c = ((decide (lo ≤ c) && decide (c ≤ lo)) || rng t c) := by rw [rng, if_neg h]
/-- the bytes that [..] stands for -/
def setB (s : List UInt8) (c : UInt8) : Bool := if s.head? = some 33 then !(rng s.tail c) else rng s c
/-- does a part stand for a byte? -/
def onS (p : List UInt8) (c : UInt8) : Bool := if p.head? = some 63 then true else if p.head? = some 91 then setB (p.drop 1).dropLast c else p.getLast? == some c
def stS (p : List UInt8) : Bool := p == [42]
/-- how many bytes stand ahead of where ] is looked for -/
def skip (t : List UInt8) : Nat := if t.head? = some 33 then 3 else 2
/-- the first part, and what is behind it -/
def cutS (p : List UInt8) : Option (List UInt8 × List UInt8) :=
  match p with
  | [] => none
  | a :: t =>
    if a = 92 then (match t with | [] => none | b :: r => some ([a, b], r))
    else if a = 91 then
      if p.length < skip t then none else
      if Lib.indexByte (p.drop (skip t)) 93 < 0 then none else some (p.take (skip t + (Lib.indexByte (p.drop (skip t)) 93).toNat + 1), p.drop (skip t + (Lib.indexByte (p.drop (skip t)) 93).toNat + 1))
    else some ([a], t)
theorem cutS_lt {p a b : List UInt8} (h : cutS p = some (a, b)) : b.length < p.length ∧ a ++ b = p ∧ a ≠ [] := by
  unfold cutS at h
  split at h
  · cases h
  · rename_i x t
    split at h
    · split at h
      · cases h
      · cases h; simp; omega
    · split at h
      · split at h
        · cases h
        · split at h
          · cases h
          · cases h
            refine ⟨by simp only [List.length_drop, List.length_cons]; omega, List.take_append_drop _ _, ?_⟩
            simp
      · cases h; simp
def partsF : Nat → List UInt8 → Option (List (List UInt8))
  | 0, l => if l = [] then some [] else none
  | n + 1, l => if l = [] then some [] else (cutS l).bind fun x => (partsF n x.2).map (x.1 :: ·)
def partsS (l : List UInt8) : Option (List (List UInt8)) := partsF l.length l
theorem partsF_eq : ∀ (n m : Nat) (l : List UInt8), l.length ≤ n → l.length ≤ m → partsF n l = partsF m l
  | 0, 0, _, _, _ => rfl
  | 0, m + 1, l, h, _ => by
    have : l = [] := List.eq_nil_of_length_eq_zero (by omega)
    subst this; rfl
  | n + 1, 0, l, _, h => by
    have : l = [] := List.eq_nil_of_length_eq_zero (by omega)
    subst this; rfl
  | n + 1, m + 1, l, h, h' => by
    unfold partsF
    by_cases hl : l = []
    · rw [if_pos hl, if_pos hl]
    · rw [if_neg hl, if_neg hl]
      cases hc : cutS l with
      | none => rfl
      | some x =>
        have := (cutS_lt (a := x.1) (b := x.2) hc).1
        simp only [Option.bind_some]
        rw [partsF_eq n m x.2 (by omega) (by omega)]
theorem partsS_nil : partsS [] = some [] := rfl
theorem partsS_cut {l : List UInt8} (h : l ≠ []) : partsS l = (cutS l).bind fun x => (partsS x.2).map (x.1 :: ·) := by
  unfold partsS
  cases hl : l.length with
  | zero => exact absurd (List.eq_nil_of_length_eq_zero hl) h
  | succ n =>
    show partsF (n + 1) l = _
    rw [partsF, if_neg h]
    cases hc : cutS l with
    | none => rfl
    | some x =>
      have := (cutS_lt (a := x.1) (b := x.2) hc).1
      simp only [Option.bind_some]
      rw [partsF_eq n x.2.length x.2 (by omega) (Nat.le_refl _)]
end Go.Gl
