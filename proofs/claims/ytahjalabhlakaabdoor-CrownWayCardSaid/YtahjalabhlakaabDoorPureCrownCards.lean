/- The plain law behind CrownCards: two files' cards never lie in one place. Conditions: none. -/
import Derived.Test.YtahjalabhlakaabDoorGCrownx12
namespace Go.Proofs.YtahjalabhlakaabDoor.Pure
open Go.RowKit Go.Proofs.YtahjalabhlakaabDoor.GCrown Go.Proofs.YtahjalabhlakaabDoorW.PrintWords Go.Proofs.YtahjalabhlakaabDoorW.PrintLast Go.Proofs.YtahjalabhlakaabDoorW.PrintMore

theorem lives_true : wainwrightlaw10_lives.f 40 = some true := by kernel_rfl
theorem card_in (a : Int) (h0 : 0 ≤ a) (h1 : a < 32) : crown_Card.f a = some (43 + a / 4, a % 4, 0) := by
  unfold crown_Card.f wrap64
  rw [if_neg (by omega), if_neg (by omega), Int.tdiv_eq_ediv_of_nonneg h0, Int.tmod_eq_emod_of_nonneg h0]
  congr 2
  omega
theorem card_out (a : Int) (h : a < 0 ∨ 32 ≤ a) : crown_Card.f a = some (0, 0, 5) := by
  unfold crown_Card.f
  by_cases h0 : a < 0
  · rw [if_pos h0]
  · rw [if_neg h0, if_pos (by omega)]
theorem CrownCards : wainwrightlaw10_CrownCards.Pure := by
  intro a b _ _
  refine ⟨41, ?_⟩
  have hl : wainwrightlaw10_lives.f 41 = some true := by kernel_rfl
  unfold wainwrightlaw10_CrownCards.f
  rw [hl]
  simp only [Option.bind_some, if_true]
  by_cases ha : 0 ≤ a ∧ a < 32
  · rw [card_in a ha.1 ha.2]
    simp only [Option.bind_some]
    by_cases hb : 0 ≤ b ∧ b < 32
    · rw [card_in b hb.1 hb.2]
      simp only [Option.bind_some]
      rw [if_neg (by omega)]
      simp only [wainwrightlaw10_CrownCards.j0, wrap64]
      have e1 : decide (a > 31) = false := decide_eq_false (by omega)
      rw [e1, if_neg (by decide), if_neg (by omega), if_neg (by omega), if_neg (by omega), if_neg (by omega), if_pos trivial, if_pos (by omega), if_pos trivial]
      by_cases h3 : 43 + a / 4 = 43 + b / 4
      · rw [if_pos h3]
        congr 1
        by_cases h4 : a % 4 = b % 4
        · have : a = b := by omega
          subst this
          simp
        · have : a ≠ b := by intro e; exact h4 (by rw [e])
          rw [beq_eq_false_iff_ne.mpr this, beq_eq_false_iff_ne.mpr h4]; rfl
      · rw [if_neg h3]
        have : a ≠ b := by intro e; exact h3 (by rw [e])
        simp [this]
    · rw [card_out b (by omega)]
      simp only [Option.bind_some]
      rw [if_neg (by omega)]
      simp only [wainwrightlaw10_CrownCards.j0, wrap64]
      have e1 : decide (a > 31) = false := decide_eq_false (by omega)
      rw [e1, if_neg (by decide), if_neg (by omega), if_neg (by omega), if_neg (by omega), if_neg (by omega), if_pos trivial, if_pos (by omega), if_neg (by omega)]
  · rw [card_out a (by omega)]
    simp only [Option.bind_some]
    obtain ⟨p, hp⟩ : ∃ p, crown_Card.f b = some p := by
      by_cases hb : 0 ≤ b ∧ b < 32
      · exact ⟨_, card_in b hb.1 hb.2⟩
      · exact ⟨_, card_out b (by omega)⟩
    rw [hp]
    simp only [Option.bind_some]
    by_cases h0 : a < 0
    · rw [if_pos h0]; rfl
    · rw [if_neg h0, decide_eq_true (show a > 31 by omega)]; rfl
theorem CrownCards_walk (a0 a1 : Int) (W : World) (w0 : (Lit.int .i64 a0).wf = true) (w1 : (Lit.int .i64 a1).wf = true) :
    Calls Tryd.prog 4 #[.int .i64 a0, .int .i64 a1] W fun e w' => e = .returned (.bool true) ∧ Below W.heap.size W w' := by
  obtain ⟨k, hk⟩ := CrownCards a0 a1 w0 w1
  exact wainwrightlaw10_CrownCards.calls k a0 a1 true W hk
end Go.Proofs.YtahjalabhlakaabDoor.Pure
