/- What ref28.set does at any text: what Gl says. Conditions: as the theorems state them. -/
import Derived.Test.YtefomcoimbnalaaDoorGlF
import Derived.Laws.Tables
import Derived.Laws.Rows
import Derived.Deep.MidRow
import Derived.Laws.CopyOwn
namespace Go.Proofs.YtefomcoimbnalaaDoor.Gw
open Go Go.RowKit Go.Gl
set_option maxRecDepth 100000
set_option maxHeartbeats 16000000
/-- a part's cells: is it a star; which bytes it stands for -/
def pcells (st : Bool) (g : Nat → Bool) : Array Value := (Value.bool st :: (List.range 256).map fun i => Value.bool (g i)).toArray
theorem pcells_size (st : Bool) (g : Nat → Bool) : (pcells st g).size = 257 := by simp [pcells]
theorem pcells_at (st : Bool) (g : Nat → Bool) (c : Nat) (h : c < 256) : (pcells st g)[1 + c]? = some (.bool (g c)) := by
  simp [pcells, Nat.add_comm 1 c, h]
theorem pcells_set (st : Bool) (g : Nat → Bool) (c : Nat) (v : Bool) (h : c < 256) : (pcells st g).setIfInBounds (1 + c) (.bool v) = pcells st (fun j => if j = c then v else g j) := by
  apply Array.ext'
  simp only [pcells, Array.toList_setIfInBounds, Nat.add_comm 1 c, List.set_cons_succ]
  congr 1
  apply List.ext_getElem?
  intro j
  rw [List.getElem?_set]
  by_cases hj : j < 256
  · by_cases hc : c = j
    · subst hc; simp [h]
    · simp [hj, hc, Ne.symm hc]
  · simp [hj]; intro e; omega
theorem zeroPart : Tryd.zeroCells36 = pcells false fun _ => false := by kernel_rfl
theorem cell_part {w : World} {B : Nat} {st : Bool} {g : Nat → Bool} {t : TypeId} (h : w.heap[B]? = some (.cells (pcells st g) t (0, 0))) (c : Nat) (hc : c < 256) : w.cell? ⟨B, 1 + c, none⟩ = some (.bool (g c)) := by
  unfold World.cell?
  simp only [h]
  exact pcells_at st g c hc
theorem set_part {w : World} {B : Nat} {st : Bool} {g : Nat → Bool} {t : TypeId} (h : w.heap[B]? = some (.cells (pcells st g) t (0, 0))) (c : Nat) (hc : c < 256) (v : Bool) :
    (w.setCell ⟨B, 1 + c, none⟩ (.bool v)).heap[B]? = some (.cells (pcells st fun j => if j = c then v else g j) t (0, 0)) := by
  rw [heap_setCell_same w B (1 + c) (pcells st g) t (.bool v) h, pcells_set st g c v hc]
theorem set_below {W w : World} {a : Addr} {v : Value} (h : Below W.heap.size W w) (ha : W.heap.size ≤ a.block) : Below W.heap.size W (w.setCell a v) :=
  ⟨h.os, h.tape, h.output, by simpa [World.setCell] using h.size, fun k hk => by rw [heap_setCell_other w a k v (by omega)]; exact h.block k hk⟩
/-- behind the runs of set: its part, its result's cell, all else untouched -/
structure Pt (w : World) (g : Nat → Bool) (u : World) : Prop where
  part : u.heap[w.heap.size + 1]? = some (.cells (pcells false g) 36 (0, 0))
  res : u.heap[w.heap.size]? = some (.cells Tryd.zeroCells36 36 (0, 0))
  bel : Below w.heap.size w u
theorem Pt.first (w : World) : Pt w (fun _ => false) ((w.alloc (.cells Tryd.zeroCells36 36)).alloc (.cells Tryd.zeroCells36 36)) :=
  ⟨by rw [← zeroPart]; exact heap_alloc2_new _ _ _, heap_alloc2_old _ _ _, ((Below.refl w.heap.size w).alloc (Nat.le_refl _) _).alloc ((Below.refl w.heap.size w).alloc (Nat.le_refl _) _).size _⟩
theorem Pt.drew {w u : World} {g : Nat → Bool} (h : Pt w g u) : Pt w g u.drew := ⟨h.part, h.res, below_drew h.bel⟩
theorem Pt.put {w u : World} {g : Nat → Bool} (h : Pt w g u) (c : Nat) (hc : c < 256) (v : Bool) : Pt w (fun j => if j = c then v else g j) (u.setCell ⟨w.heap.size + 1, 1 + c, none⟩ (.bool v)) :=
  ⟨set_part h.part c hc v, by rw [heap_setCell_other u _ _ _ (by simp)]; exact h.res, set_below h.bel (Nat.le_succ _)⟩
theorem Pt.congr {w u : World} {g g' : Nat → Bool} (h : Pt w g u) (e : ∀ c, c < 256 → g c = g' c) : Pt w g' u := by
  refine ⟨?_, h.res, h.bel⟩
  rw [h.part, show pcells false g = pcells false g' from by
    unfold pcells
    congr 2
    exact List.map_congr_left fun c hc => by rw [e c (List.mem_range.1 hc)]]
theorem Pt.cell {w u : World} {g : Nat → Bool} (h : Pt w g u) (c : Nat) (hc : c < 256) : u.cell? ⟨w.heap.size + 1, 1 + c, none⟩ = some (.bool (g c)) := cell_part h.part c hc
theorem Pt.free {w u : World} {g : Nat → Bool} (h : Pt w g u) (c : Nat) : u.frozen? ⟨w.heap.size + 1, 1 + c, none⟩ = false := frozen_of_row u _ _ _ _ h.part
theorem u8n (c : Nat) (h : c < 256) : c.toUInt8.toNat = c := by simp [Nat.toUInt8]; omega
theorem step_g {y rest : List UInt8} {g g2 : Nat → Bool} {lo hi : UInt8} {c : Nat} (HG : ∀ c : Nat, c < 256 → (g c || ((decide (lo ≤ c.toUInt8) && decide (c.toUInt8 ≤ hi)) || rng rest c.toUInt8)) = rng y c.toUInt8)
    (HG2 : ∀ j : Nat, j < 256 → g2 j = (g j || (decide (lo.toNat ≤ j) && decide (j < c)))) (hor : c ≤ hi.toNat + 1 ∨ c = lo.toNat) (hgt : ¬ c ≤ hi.toNat) : ∀ j : Nat, j < 256 → (g2 j || rng rest j.toUInt8) = rng y j.toUInt8 := by
  intro j hj
  rw [HG2 j hj, ← HG j hj, Bool.or_assoc]
  congr 2
  have e1 : decide (lo ≤ j.toUInt8) = decide (lo.toNat ≤ j) := decide_eq_decide.2 (by rw [UInt8.le_iff_toNat_le, u8n j hj])
  have e2 : decide (j.toUInt8 ≤ hi) = decide (j ≤ hi.toNat) := decide_eq_decide.2 (by rw [UInt8.le_iff_toNat_le, u8n j hj])
  rw [e1, e2]
  by_cases h1 : lo.toNat ≤ j
  · rw [decide_eq_true h1, Bool.true_and, Bool.true_and]
    exact decide_eq_decide.2 (by omega)
  · rw [decide_eq_false h1]; rfl
theorem lt_iff_of_ne {j c : Nat} (e : ¬ j = c) : j < c ↔ j < c + 1 := by omega
theorem fwd256 {c q : Nat} (h : 256 ≤ c + (q + 1)) : 256 ≤ c + 1 + q := by omega
theorem info_part : (Tryd.prog.info? 36).map (·.size) = some 257 := by kernel_rfl
theorem info_cells (st : Bool) (g : Nat → Bool) : (Tryd.prog.info? 36).map (·.size) = some (pcells st g).size := by rw [pcells_size]; exact info_part
theorem pcells_one (st : Bool) (g : Nat → Bool) : (pcells st g).all (·.oneCell') = true := by
  rw [Array.all_eq_true_iff_forall_mem]
  intro v hv
  simp only [pcells, List.mem_toArray, List.mem_cons, List.mem_map] at hv
  rcases hv with rfl | ⟨i, _, rfl⟩ <;> rfl
theorem zero_size : Tryd.zeroCells36.size = 257 := by rw [zeroPart, pcells_size]
end Go.Proofs.YtefomcoimbnalaaDoor.Gw
