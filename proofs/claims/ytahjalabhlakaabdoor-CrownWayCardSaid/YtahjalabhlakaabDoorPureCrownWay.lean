/- The plain law behind CrownWay: on the way the files below the cursor are of the second format. Conditions: none. -/
import Derived.Test.YtahjalabhlakaabDoorGCrownx14
import Derived.Test.YtahjalabhlakaabDoorPureCrownCards
namespace Go.Proofs.YtahjalabhlakaabDoor.Pure
open Go.RowKit Go.Proofs.YtahjalabhlakaabDoor.GCrown Go.Proofs.YtahjalabhlakaabDoorW.PrintWords Go.Proofs.YtahjalabhlakaabDoorW.PrintLast Go.Proofs.YtahjalabhlakaabDoorW.PrintMore

def rightB (f b c : Int) : Bool := decide (64 ≤ b) && decide (b ≤ 400) && (((f == 1 || f == 2) && c == 0) || ((f == 3 || f == 4) && decide (0 ≤ c) && decide (c ≤ 32)))
theorem right_eq (k : Nat) (f b c : Int) : crown_Right.f (k + 1 + 1) f b c = some (rightB f b c) := by
  simp only [crown_Right.f, crown_Right.j0, crown_Right.j1, rightB]
  by_cases h1 : b < 64
  · rw [if_pos h1, if_pos trivial, decide_eq_false (by omega : ¬ 64 ≤ b)]; rfl
  · rw [if_neg h1, decide_eq_true (by omega : 64 ≤ b)]
    by_cases h2 : b > 400
    · rw [decide_eq_true h2, if_pos rfl, decide_eq_false (by omega : ¬ b ≤ 400)]; rfl
    · rw [decide_eq_false h2, if_neg (by decide), decide_eq_true (by omega : b ≤ 400)]
      by_cases h3 : f = 1
      · subst h3; simp
      · rw [if_neg h3]
        by_cases h4 : f = 2
        · subst h4; simp
        · by_cases h5 : f = 3
          · subst h5
            by_cases h6 : 0 ≤ c <;> simp [h6]
          · by_cases h6 : f = 4
            · subst h6
              by_cases h7 : 0 ≤ c <;> simp [h7]
            · simp [h3, h4, h5, h6]
def fmtI (f c n : Int) : Int := if f ≤ 2 then f else if n < c then 2 else 1
theorem format_eq (k : Nat) (f b c n : Int) : crown_Format.f (k + 1 + 1) f b c n = some (if rightB f b c = true ∧ 0 ≤ n ∧ n < 32 then fmtI f c n else 0) := by
  simp only [crown_Format.f, crown_Format.j0, right_eq, Option.bind_some]
  by_cases h : rightB f b c = true
  · rw [if_pos h]
    by_cases h0 : n < 0
    · rw [if_pos h0, if_pos trivial, if_neg (by omega)]
    · rw [if_neg h0]
      by_cases h1 : n ≥ 32
      · rw [decide_eq_true h1, if_pos rfl, if_neg (by omega)]
      · rw [decide_eq_false h1, if_neg (by decide), if_pos (show rightB f b c = true ∧ 0 ≤ n ∧ n < 32 from ⟨h, by omega, by omega⟩)]
        unfold fmtI
        by_cases h2 : f ≤ 2
        · rw [if_pos h2, if_pos h2]
        · rw [if_neg h2, if_neg h2]
          by_cases h3 : n < c
          · rw [if_pos h3, if_pos h3]
          · rw [if_neg h3, if_neg h3]
  · rw [if_neg h, if_pos trivial, if_neg (by intro hh; exact h hh.1)]
theorem CrownWay (f b c n : Int) : ∃ k, wainwrightlaw10_CrownWay.f k f b c n = some true := by
  refine ⟨38 + 1 + 1 + 1, ?_⟩
  have hl : wainwrightlaw10_lives.f (38 + 1 + 1 + 1) = some true := by kernel_rfl
  simp only [wainwrightlaw10_CrownWay.f, hl, Option.bind_some, if_true, format_eq, right_eq, wainwrightlaw10_CrownWay.j0]
  by_cases h : rightB f b c = true
  · rw [if_pos h]
    by_cases h0 : n < 0
    · rw [if_pos h0, if_neg (by omega)]; rfl
    · rw [if_neg h0]
      by_cases h1 : n > 31
      · rw [decide_eq_true h1, if_pos rfl, if_neg (by omega)]; rfl
      · rw [decide_eq_false h1, if_neg (by decide), if_pos (show rightB f b c = true ∧ 0 ≤ n ∧ n < 32 from ⟨h, by omega, by omega⟩)]
        unfold fmtI
        by_cases h2 : f ≤ 2
        · rw [if_pos h2, if_pos h2, beq_self_eq_true]
        · rw [if_neg h2, if_neg h2]
          by_cases h3 : n < c
          · rw [if_pos h3, decide_eq_true h3, decide_eq_false (by omega : ¬ n ≥ c)]; rfl
          · rw [if_neg h3, decide_eq_false h3, decide_eq_true (by omega : n ≥ c)]; rfl
  · rw [if_neg h, if_neg (by intro hh; exact h hh.1)]; rfl
theorem CrownWay_walk (a0 a1 a2 a3 : Int) (W : World) (_w0 : (Lit.int .i64 a0).wf = true) (_w1 : (Lit.int .i64 a1).wf = true) (_w2 : (Lit.int .i64 a2).wf = true) (_w3 : (Lit.int .i64 a3).wf = true) :
    Calls Tryd.prog 6 #[.agg #[.int .i64 a0, .int .i64 a1, .int .i64 a2], .int .i64 a3] W fun e w' => e = .returned (.bool true) ∧ Below W.heap.size W w' := by
  obtain ⟨k, hk⟩ := CrownWay a0 a1 a2 a3
  exact wainwrightlaw10_CrownWay.calls k a0 a1 a2 a3 true W hk
end Go.Proofs.YtahjalabhlakaabDoor.Pure
