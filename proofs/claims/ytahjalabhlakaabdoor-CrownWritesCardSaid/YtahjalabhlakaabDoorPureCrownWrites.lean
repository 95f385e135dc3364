/- The plain law behind CrownWrites: a crown's block and the formats of its files' cards are what the document says. Conditions: none. -/
import Derived.Test.YtahjalabhlakaabDoorPureCrown
import Derived.Test.YtahjalabhlakaabDoorGCrwx12
namespace Go.Proofs.YtahjalabhlakaabDoor.Pure
open Go.RowKit Go.Proofs.YtahjalabhlakaabDoor.GCrw Go.Proofs.YtahjalabhlakaabDoorW.PrintWords Go.Proofs.YtahjalabhlakaabDoorW.PrintLast Go.Proofs.YtahjalabhlakaabDoorW.PrintMore Go.Proofs.YtahjalabhlakaabDoor.Plain Go.Proofs.YtahjalabhlakaabDoor.Mould
theorem lives_ev : Ev (fun k => wainwrightlaw10_lives.f k) true := Ev.of (k := 40) wainwrightlaw10_lives.mono (by kernel_rfl)
def fmtC (f b c n : Int) : Int := if rightB f b c = true ∧ 0 ≤ n ∧ n < 32 then (if f = 1 then 1 else if f > 2 ∧ n ≥ c then 1 else 2) else 0
theorem format_ev (f b c n : Int) : Ev (fun k => crown_Format.f k f b c n) (fmtC f b c n) := by
  refine Ev.bind (right_ev f b c) ?_
  refine Ev.step (f := fun _ => some (fmtC f b c n)) (fun k => ?_) (Ev.now _)
  simp only [crown_Format.j0, fmtC]
  by_cases h : rightB f b c = true
  · have hb := right_bounds h
    rw [if_pos h]
    by_cases h0 : n < 0
    · rw [if_pos h0, if_pos trivial, if_neg (by omega)]
    · rw [if_neg h0]
      by_cases h1 : n ≥ 32
      · rw [decide_eq_true h1, if_pos rfl, if_neg (by omega)]
      · rw [decide_eq_false h1, if_neg (by decide), if_pos (show rightB f b c = true ∧ 0 ≤ n ∧ n < 32 from ⟨h, by omega, by omega⟩)]
        by_cases h2 : f ≤ 2
        · rw [if_pos h2]
          by_cases h3 : f = 1
          · rw [if_pos h3, h3]
          · rw [if_neg h3, if_neg (by omega), show f = 2 by omega]
        · rw [if_neg h2, if_neg (show ¬ f = 1 by omega)]
          by_cases h3 : n < c
          · rw [if_pos h3, if_neg (by omega)]
          · rw [if_neg h3, if_pos (by omega)]
  · rw [if_neg h, if_pos trivial, if_neg (by intro hh; exact h hh.1)]
theorem rformat_ev (f b c n : Int) : Ev (fun k => wainwrightref10_Format.f k f b c n) (fmtC f b c n) := by
  refine Ev.bind (rright_ev f b c) ?_
  refine Ev.step (f := fun _ => some (fmtC f b c n)) (fun k => ?_) (Ev.now _)
  simp only [wainwrightref10_Format.j0, fmtC]
  by_cases h : rightB f b c = true
  · rw [if_pos h]
    by_cases h0 : n < 0
    · rw [if_pos h0, if_pos trivial, if_neg (by omega)]
    · rw [if_neg h0]
      by_cases h1 : n ≥ 32
      · rw [decide_eq_true h1, if_pos rfl, if_neg (by omega)]
      · rw [decide_eq_false h1, if_neg (by decide), if_pos (show rightB f b c = true ∧ 0 ≤ n ∧ n < 32 from ⟨h, by omega, by omega⟩)]
        by_cases h3 : f = 1
        · rw [if_pos h3, if_pos h3]
        · rw [if_neg h3, if_neg h3]
          by_cases h2 : f > 2
          · rw [if_pos h2]
            by_cases h4 : n ≥ c
            · rw [if_pos h4, if_pos ⟨h2, h4⟩]
            · rw [if_neg h4, if_neg (by omega)]
          · rw [if_neg h2, if_neg (by omega)]
  · rw [if_neg h, if_pos trivial, if_neg (by intro hh; exact h hh.1)]
theorem CrownWrites (f b c n : Int) : ∃ k, wainwrightlaw10_CrownWrites.f k f b c n = some true := by
  refine Ev.rounds (Ev.bind lives_ev ?_)
  refine Ev.congr (fun k => by rw [if_pos rfl]) ?_
  refine Ev.bind (write_crown f b c) ?_
  refine Ev.bind (rwrite_crown f b c) ?_
  refine Ev.congr (fun k => by rw [if_pos rfl, if_pos rfl]) ?_
  refine Ev.bind (right_ev f b c) ?_
  refine Ev.bind (rright_ev f b c) ?_
  refine Ev.congr (fun k => by rw [if_pos (beq_self_eq_true _)]) ?_
  refine Ev.bind (format_ev f b c n) ?_
  refine Ev.bind (rformat_ev f b c n) ?_
  rw [beq_self_eq_true]
  exact Ev.now _
theorem CrownWrites_walk (a0 a1 a2 a3 : Int) (W : World) (_w0 : (Lit.int .i64 a0).wf = true) (_w1 : (Lit.int .i64 a1).wf = true) (_w2 : (Lit.int .i64 a2).wf = true) (_w3 : (Lit.int .i64 a3).wf = true) :
    Calls Tryd.prog 5 #[.agg #[.int .i64 a0, .int .i64 a1, .int .i64 a2], .int .i64 a3] W fun e w' => e = .returned (.bool true) ∧ Below W.heap.size W w' := by
  obtain ⟨k, hk⟩ := CrownWrites a0 a1 a2 a3
  exact wainwrightlaw10_CrownWrites.calls k a0 a1 a2 a3 true W hk
end Go.Proofs.YtahjalabhlakaabDoor.Pure
