/- The law CardsWrite: whatever the card, the program's bytes are the document's, and so is what may be. Conditions: a row of numbers no longer than a machine holds. -/
import Derived.Test.YtegdoodjajpnhaaPureWrite
import Derived.Test.YtegdoodjajpnhaaGCwrx16
namespace Go.Proofs.Ytegdoodjajpnhaa.Pure
open Go.RowKit Go.Proofs.Ytegdoodjajpnhaa.GCwr Go.Proofs.YtegdoodjajpnhaaW.PrintWords Go.Proofs.YtegdoodjajpnhaaW.PrintLast Go.Proofs.YtegdoodjajpnhaaW.PrintMore Go.Proofs.Ytegdoodjajpnhaa.Plain Go.Proofs.Ytegdoodjajpnhaa.Mould
theorem lives_ev : Ev (fun k => wainwrightlaw09_lives.f k) true := Ev.of (k := 100) wainwrightlaw09_lives.mono (by kernel_rfl)
theorem CardsWrite (F K L S : Int) (P : List Int) (S1 D : Int) (R : List S48) (O : Int)
    (hP : P.length + 3 < 17592186044416) (hR : R.length ≤ 9223372036854775807) : ∃ k, wainwrightlaw09_CardsWrite.f k F K L S P S1 D R O = some true := by
  apply Ev.rounds (g := fun k => wainwrightlaw09_CardsWrite.f k F K L S P S1 D R O)
  unfold wainwrightlaw09_CardsWrite.f
  refine Ev.bind lives_ev ?_
  simp only [if_true]
  refine Ev.bind (write_ev9 F K L S P S1 D R O hP hR) (Ev.bind (rwrite_ev9 F K L S P S1 D R O hP hR) ?_)
  simp only [eq_self, if_true]
  refine Ev.bind (right_ev F K L S P S1 D R O hP hR) (Ev.bind (rright_ev F K L S P S1 D R O hP hR) ?_)
  rw [beq_self_eq_true]
  exact Ev.now _
theorem CardsWrite_walk (a0 a1 a2 a3 : Int) (A4 : Option Addr) (c4 : Nat) (l4 : List Int) (a5 a6 : Int) (A7 : Option Addr) (c7 : Nat) (l7 : List S48) (a8 : Int) (w : World)
    (h4 : Kd.C (Kd.int .i64) w A4 l4.length l4) (i4 : l4.length ≤ c4) (h7 : Kd.C k48 w A7 l7.length l7) (i7 : l7.length ≤ c7) (z4 : l4.length + 3 < 17592186044416) :
    Calls Try.prog 3 #[.agg #[.int .i64 a0, .int .i64 a1, .int .i64 a2, .int .i64 a3, .slice A4 l4.length c4, .int .i64 a5, .int .i64 a6, .slice A7 l7.length c7, .int .i64 a8]] w fun e w' => e = .returned (.bool true) ∧ Below w.heap.size w w' := by
  obtain ⟨k, h⟩ := CardsWrite a0 a1 a2 a3 l4 a5 a6 l7 a8 z4 h7.2.1
  exact wainwrightlaw09_CardsWrite.calls k a0 a1 a2 a3 A4 c4 l4 a5 a6 A7 c7 l7 a8 true w h4 i4 h7 i7 h
end Go.Proofs.Ytegdoodjajpnhaa.Pure
