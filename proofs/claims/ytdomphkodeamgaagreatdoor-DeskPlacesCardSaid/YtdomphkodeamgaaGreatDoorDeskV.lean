/- A house that stands in a heap that was run: Stat of a path answers the same, whatever is done beside its blocks. Conditions: as the theorems state them. -/
import Derived.Test.YtdomphkodeamgaaGreatDoorK24H
import Derived.Test.YtdomphkodeamgaaGreatDoorDeskLaw
namespace Go.Proofs.YtdomphkodeamgaaGreatDoor
open Go Go.Vint Go.RowKit
set_option maxRecDepth 1000000
theorem inv_same {φ : Phi} {h : H} {u u' : World} (I : Inv PP φ h u) (e : ∀ c, (∃ b, Live h b ∧ φ.blk b = c) → u'.heap[c]? = u.heap[c]?) : Inv PP φ h u' := by
  refine ⟨⟨fun b o ho => ?_, I.mem.lt, I.mem.nx, I.mem.inj⟩, I.fine⟩
  have r := I.mem.rel b o ho
  by_cases hd : o = .dead
  · subst hd; exact trivial
  · rw [e _ ⟨b, ⟨o, ho, hd⟩, rfl⟩]; exact r
theorem inv_back {φ φ' : Phi} {h h' : H} {u w' : World} (I : Inv PP φ h u) (I' : Inv PP φ' h' w') (S : Phi.Same (· < h.next) φ φ') (e : h'.heap = h.heap) : Inv PP φ h w' := by
  refine ⟨⟨fun b o ho => ?_, I.mem.lt, I.mem.nx, I.mem.inj⟩, I.fine⟩
  have hb := I.mem.lt b o ho
  have ho' : h'.get b = some o := by unfold H.get at ho ⊢; rw [e]; exact ho
  have r := I'.mem.rel b o ho'
  rw [(S b hb).1] at r
  exact ORel_same (D := (· < h.next)) (φ := φ') (fun b hb => ⟨(S b hb).1.symm, (S b hb).2.1.symm, (S b hb).2.2.symm⟩) hb (fineO_same S (fun _ h => h) (I.fine b o ho)) r
theorem fpath_val : (⟨26159, 2⟩ : Str).val = DeskP.fpath := by kernel_rfl
theorem house_of {E : Env} (K : EnvOk PP E) {φ : Phi} {hS h' : H} {pH : Nat}
    (run : runK E 1000000 20 [.ptr pH 0, .str ⟨26159, 2⟩] hS h'.heap = .ok (.tup [.agg [.int .i64 (.ofNat 2), .int .i64 (.ofNat 1), .int .i64 (.ofNat 1), .int .i64 (.ofNat 0)], .int .i64 (.ofNat 0)], h'))
    (e : h'.heap = hS.heap) (hp : pH < hS.next) :
    DeskP.House (.pointer (some ⟨φ.blk pH, φ.off pH + 0, none⟩)) (fun c => ∃ b, Live hS b ∧ φ.blk b = c) (fun u => Inv PP φ hS u) 2 1 0 where
  keep := fun u u' I e => inv_same I e
  lt := fun u I c ⟨b, ⟨o, ho, hd⟩, hc⟩ => hc ▸ I.mem.inHeap ho hd
  stat := fun u I => by
    have c := calls_runK K mixedH run I (by simpa [fineL, fineV] using hp)
    refine Calls.mono (by simp only [concL, conc, fpath_val] at c; exact c) ?_
    rintro en w' ⟨φ', rfl, X, I', _⟩
    refine ⟨rfl, inv_back I I' X.same e, X.size, fun c hc hf => X.keep c hc (fun b hb hc' => hf ⟨b, hb.live, hc'⟩), X.os, X.tape, X.output⟩
/-- a block of cells of its own: what it is in memory -/
theorem cells_at {φ : Phi} {h : H} {w : World} (I : Inv PP φ h w) {b : Nat} {cs : List V} {t : TypeId} (hg : h.get b = some (.cells cs t false 0 0)) : φ.off b = 0 ∧ ∃ l, w.heap[φ.blk b]? = some (.cells (concL φ cs).toArray t (l, l)) := by
  have r := I.mem.rel b _ hg
  obtain ⟨ccs, lo, hi, hx, hc, ⟨h1, h2⟩, _, h4⟩ := r
  obtain ⟨h5, h6⟩ := h4 rfl (by decide)
  refine ⟨h5, lo, ?_⟩
  have e : lo = hi := by
    rcases Nat.lt_or_ge lo hi with h | h
    · obtain ⟨_, h3⟩ := h2 h
      rcases h3 with h3 | h3
      · omega
      · exact absurd h3 (by decide)
    · omega
  subst e
  rw [hx]
  congr 2
  apply Array.ext
  · rw [h6]; simp [concL_eq]
  · intro i hi1 hi2
    have hlt : i < cs.length := by rw [← h6]; exact hi1
    have := hc i cs[i] (List.getElem?_eq_getElem hlt)
    rw [h5, Nat.zero_add] at this
    have e2 := Array.getElem?_eq_some_iff.1 this
    obtain ⟨_, e2⟩ := e2
    rw [e2]
    simp [concL_eq]
theorem left_born {W w : World} {φ : Phi} {h : H} (L : Go.Vint.Left PP W h φ w) {b : Nat} (hb : Live h b) : W.heap.size ≤ φ.blk b := by
  obtain ⟨Wb, φ0, hbel, X, I⟩ := L
  rcases X.born b (Nat.zero_le _) hb with h1 | ⟨b0, ⟨o, ho, _⟩, _⟩
  · exact Nat.le_trans hbel.size h1
  · rw [bare_none] at ho; cases ho
/-- behind Make -/
theorem ready_of {E : Env} (K : EnvOk PP E) {two : Bool} {W w : World} {φ : Phi} {h hS h' : H} {pH pD : Nat} (L : Go.Vint.Left PP W h φ w)
    (hD : h.get pD = some (.cells [.ptr pH 0, .nilp, .nilp, .nilp, .nilp, .nilp, .nilp, .nilp, .nilp] 54 false 0 0))
    (hsub : ∀ b o, hS.get b = some o → h.get b = some o) (hnx : hS.next = h.next) (hno : hS.get pD = none)
    (run : runK E 1000000 20 [.ptr pH 0, .str ⟨26159, 2⟩] hS h'.heap = .ok (.tup [.agg [.int .i64 (.ofNat 2), .int .i64 (.ofNat 1), .int .i64 (.ofNat 1), .int .i64 (.ofNat 0)], .int .i64 (.ofNat 0)], h'))
    (e : h'.heap = hS.heap) (hp : pH < hS.next) :
    DeskP.Ready two W w ⟨φ.blk pH, φ.off pH + 0, none⟩ (φ.blk pD) (fun c => ∃ b, Live hS b ∧ φ.blk b = c) (fun u => Inv PP φ hS u) 2 1 0 := by
  have L0 := L
  obtain ⟨_, _, _, _, I⟩ := L
  have live : ∀ b, Live hS b → Live h b := fun b ⟨o, ho, hd⟩ => ⟨o, hsub b o ho, hd⟩
  obtain ⟨_, l, hl⟩ := cells_at I hD
  have wrD : Wr h pD := ⟨_, hD, rfl⟩
  refine ⟨house_of K run e hp, L0.below, I.forget hsub hnx, ⟨l, ?_⟩, ?_, ?_, left_born L0 wrD.live⟩
  · rw [hl]
    simp only [concL, conc]
  · rintro ⟨b, hb, hc⟩
    have := I.mem.inj pD b wrD (live b hb) hc.symm
    subst this
    obtain ⟨o, ho, _⟩ := hb
    rw [hno] at ho; cases ho
  · rintro c ⟨b, hb, rfl⟩
    exact left_born L0 (live b hb)
end Go.Proofs.YtdomphkodeamgaaGreatDoor
