/- The law CardsRead: what the program reads of any bytes is what the reference reads. Conditions: none beyond a length that a machine holds. -/
import Derived.Test.YtgigoogekimgkaaGCrdx18
namespace Go.Proofs.Ytgigoogekimgkaa.Pure
open Go.RowKit Go.Proofs.Ytgigoogekimgkaa.GCrd Go.Proofs.YtgigoogekimgkaaW.PrintWords Go.Proofs.YtgigoogekimgkaaW.PrintLast Go.Proofs.YtgigoogekimgkaaW.PrintMore Go.Proofs.Ytgigoogekimgkaa.Plain Go.Proofs.Ytgigoogekimgkaa.Mould
theorem lives_ev : Ev (fun k => lw_lives.f k) true := Ev.of (k := 100) lw_lives.mono (by kernel_rfl)
theorem CardsRead : lw_CardsRead.Pure := by
  intro s _
  apply Ev.rounds (g := fun k => lw_CardsRead.f k s)
  unfold lw_CardsRead.f
  refine Ev.bind lives_ev ?_
  simp only [if_true]
  obtain ⟨F, K, L, S, P, S1, D, R, O, e, h, hP, hR, _⟩ := read_any s
  refine Ev.bind h ?_
  refine Ev.bind (f := fun k bt335 => if e = bt335.2.2.2.2.2.2.2.2.2 then ((r9_Same.f k F K L S P S1 D R O bt335.1 bt335.2.1 bt335.2.2.1 bt335.2.2.2.1 bt335.2.2.2.2.1 bt335.2.2.2.2.2.1 bt335.2.2.2.2.2.2.1 bt335.2.2.2.2.2.2.2.1 bt335.2.2.2.2.2.2.2.2.1).bind fun t350 => (some t350)) else (some false)) (h : Ev (fun k => r9_Read.f k s) _) ?_
  refine Ev.congr (fun k => if_pos rfl) ?_
  refine Ev.bind (rsame_ev F K L S P S1 D R O F K L S P S1 D R O (by omega) hR) ?_
  rw [T_pos ⟨rfl, rfl, rfl, rfl, rfl, rfl, rfl, rfl, rfl⟩]
  exact Ev.now true
end Go.Proofs.Ytgigoogekimgkaa.Pure
