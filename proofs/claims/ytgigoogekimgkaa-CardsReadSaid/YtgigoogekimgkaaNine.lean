/- Words of this session's own for printed walks: a card (nine cells) that lies in a block of the call's own, all its cells at once. Conditions: as the theorems state them. -/
import Derived.Test.YtgigoogekimgkaaV
namespace Go.Proofs.YtgigoogekimgkaaW.PrintWords
open Go.RowKit
/-- The first k of n are done. -/
def mk_ (k n : Nat) : Array Bool := (List.replicate k true ++ List.replicate (n - k) false).toArray
section
variable {w : World} {g : Nat} {t : TypeId} {a0 a1 a2 a3 a4 a5 a6 a7 a8 u0 u1 u2 u3 u4 u5 u6 u7 u8 : Value}
theorem cells9 (h : w.heap[g]? = some (.cells #[a0, a1, a2, a3, a4, a5, a6, a7, a8] t (0, 0))) : w.cell? ⟨g, 0, none⟩ = some a0 ∧ w.cell? ⟨g, 1, none⟩ = some a1 ∧ w.cell? ⟨g, 2, none⟩ = some a2 ∧ w.cell? ⟨g, 3, none⟩ = some a3 ∧ w.cell? ⟨g, 4, none⟩ = some a4 ∧ w.cell? ⟨g, 5, none⟩ = some a5 ∧ w.cell? ⟨g, 6, none⟩ = some a6 ∧ w.cell? ⟨g, 7, none⟩ = some a7 ∧ w.cell? ⟨g, 8, none⟩ = some a8 :=
  ⟨(blk_cell h 0).trans rfl, (blk_cell h 1).trans rfl, (blk_cell h 2).trans rfl, (blk_cell h 3).trans rfl, (blk_cell h 4).trans rfl, (blk_cell h 5).trans rfl, (blk_cell h 6).trans rfl, (blk_cell h 7).trans rfl, (blk_cell h 8).trans rfl⟩
theorem frozen9 {cs : Array Value} (h : w.heap[g]? = some (.cells cs t (0, 0))) : w.frozen? ⟨g, 0, none⟩ = false ∧ w.frozen? ⟨g, 1, none⟩ = false ∧ w.frozen? ⟨g, 2, none⟩ = false ∧ w.frozen? ⟨g, 3, none⟩ = false ∧ w.frozen? ⟨g, 4, none⟩ = false ∧ w.frozen? ⟨g, 5, none⟩ = false ∧ w.frozen? ⟨g, 6, none⟩ = false ∧ w.frozen? ⟨g, 7, none⟩ = false ∧ w.frozen? ⟨g, 8, none⟩ = false :=
  ⟨blk_frozen h 0, blk_frozen h 1, blk_frozen h 2, blk_frozen h 3, blk_frozen h 4, blk_frozen h 5, blk_frozen h 6, blk_frozen h 7, blk_frozen h 8⟩
theorem put9' (h : w.heap[g]? = some (.cells #[a0, a1, a2, a3, a4, a5, a6, a7, a8] t (0, 0))) :
    (((((((((w.setCell ⟨g, 0, none⟩ u0).setCell ⟨g, 1, none⟩ u1).setCell ⟨g, 2, none⟩ u2).setCell ⟨g, 3, none⟩ u3).setCell ⟨g, 4, none⟩ u4).setCell ⟨g, 5, none⟩ u5).setCell ⟨g, 6, none⟩ u6).setCell ⟨g, 7, none⟩ u7).setCell ⟨g, 8, none⟩ u8).heap[g]? = some (.cells #[u0, u1, u2, u3, u4, u5, u6, u7, u8] t (0, 0)) := by
  refine blk_put (cs := #[u0, u1, u2, u3, u4, u5, u6, u7, a8]) ?_ 8 _ rfl
  refine blk_put (cs := #[u0, u1, u2, u3, u4, u5, u6, a7, a8]) ?_ 7 _ rfl
  refine blk_put (cs := #[u0, u1, u2, u3, u4, u5, a6, a7, a8]) ?_ 6 _ rfl
  refine blk_put (cs := #[u0, u1, u2, u3, u4, a5, a6, a7, a8]) ?_ 5 _ rfl
  refine blk_put (cs := #[u0, u1, u2, u3, a4, a5, a6, a7, a8]) ?_ 4 _ rfl
  refine blk_put (cs := #[u0, u1, u2, a3, a4, a5, a6, a7, a8]) ?_ 3 _ rfl
  refine blk_put (cs := #[u0, u1, a2, a3, a4, a5, a6, a7, a8]) ?_ 2 _ rfl
  refine blk_put (cs := #[u0, a1, a2, a3, a4, a5, a6, a7, a8]) ?_ 1 _ rfl
  refine blk_put (cs := #[a0, a1, a2, a3, a4, a5, a6, a7, a8]) ?_ 0 _ rfl
  exact h
theorem put9 {cs : Array Value} (h : w.heap[g]? = some (.cells cs t (0, 0))) (hs : cs.size = 9) :
    (((((((((w.setCell ⟨g, 0, none⟩ u0).setCell ⟨g, 1, none⟩ u1).setCell ⟨g, 2, none⟩ u2).setCell ⟨g, 3, none⟩ u3).setCell ⟨g, 4, none⟩ u4).setCell ⟨g, 5, none⟩ u5).setCell ⟨g, 6, none⟩ u6).setCell ⟨g, 7, none⟩ u7).setCell ⟨g, 8, none⟩ u8).heap[g]? = some (.cells #[u0, u1, u2, u3, u4, u5, u6, u7, u8] t (0, 0)) := by
  obtain ⟨l⟩ := cs
  match l, hs with
  | [c0, c1, c2, c3, c4, c5, c6, c7, c8], _ => exact put9' h
theorem far9 {cs : Array Value} {g2 : Nat} (h : w.heap[g]? = some (.cells cs t (0, 0))) (hp : g ≠ g2) :
    (((((((((w.setCell ⟨g2, 0, none⟩ u0).setCell ⟨g2, 1, none⟩ u1).setCell ⟨g2, 2, none⟩ u2).setCell ⟨g2, 3, none⟩ u3).setCell ⟨g2, 4, none⟩ u4).setCell ⟨g2, 5, none⟩ u5).setCell ⟨g2, 6, none⟩ u6).setCell ⟨g2, 7, none⟩ u7).setCell ⟨g2, 8, none⟩ u8).heap[g]? = some (.cells cs t (0, 0)) :=
  blk_far (blk_far (blk_far (blk_far (blk_far (blk_far (blk_far (blk_far (blk_far h hp u0) hp u1) hp u2) hp u3) hp u4) hp u5) hp u6) hp u7) hp u8
theorem Kd.R_far9 {α : Type} {d : Kd α} {e base : Nat} {ok : Nat → Prop} {v : Value} {xs : List α} (h : Kd.R d e w base ok v xs) (hok : ∀ k, ok k → k ≠ g) :
    Kd.R d e (((((((((w.setCell ⟨g, 0, none⟩ u0).setCell ⟨g, 1, none⟩ u1).setCell ⟨g, 2, none⟩ u2).setCell ⟨g, 3, none⟩ u3).setCell ⟨g, 4, none⟩ u4).setCell ⟨g, 5, none⟩ u5).setCell ⟨g, 6, none⟩ u6).setCell ⟨g, 7, none⟩ u7).setCell ⟨g, 8, none⟩ u8) base ok v xs :=
  Kd.R_far (Kd.R_far (Kd.R_far (Kd.R_far (Kd.R_far (Kd.R_far (Kd.R_far (Kd.R_far (Kd.R_far h hok u0) hok u1) hok u2) hok u3) hok u4) hok u5) hok u6) hok u7) hok u8
end
end Go.Proofs.YtgigoogekimgkaaW.PrintWords
