/- A part that is being made beside the row of parts. Conditions: as the theorems state them. -/
import Derived.Test.YtefomcoimbnalaaDoorGlRd
import Derived.Test.YtefomcoimbnalaaDoorGlS
import Derived.Laws.OwnMore
import Derived.Great.CaseRows
namespace Go.Proofs.YtefomcoimbnalaaDoor.Gw
open Go Go.RowKit Go.Gl
set_option maxRecDepth 100000
def pcl (p : List UInt8) : List Value := (pcells (stS p) (pc p)).toList
theorem pcells_congr {st : Bool} {g g' : Nat → Bool} (e : ∀ c, c < 256 → g c = g' c) : pcells st g = pcells st g' := by
  unfold pcells
  congr 2
  exact List.map_congr_left fun c hc => by rw [e c (List.mem_range.1 hc)]
theorem pcells_star (st v : Bool) (g : Nat → Bool) : (pcells st g).setIfInBounds 0 (.bool v) = pcells v g := by
  apply Array.ext'
  rw [Array.toList_setIfInBounds]
  rfl
structure Pw (w : World) (v : Value) (n : Nat) (xs : List Value) (B : Nat) (st : Bool) (g : Nat → Bool) (u : World) : Prop where
  part : u.heap[B]? = some (.cells (pcells st g) 36 (0, 0))
  own : u.ownsRow w.heap.size 36 257 v n xs
  bel : Below w.heap.size w u
  ge : w.heap.size ≤ B
  ne : v.ownBlock = none ∨ v.ownBlock ≠ some B
theorem Pw.first {w wr : World} {v : Value} {n : Nat} {xs : List Value} (h : wr.ownsRow w.heap.size 36 257 v n xs) (hb : Below w.heap.size w wr) : Pw w v n xs wr.heap.size false (fun _ => false) (wr.alloc (.cells Tryd.zeroCells36 36)) :=
  ⟨by rw [← zeroPart]; exact heap_alloc_new _ _, h.alloc _, hb.alloc hb.size _, hb.size, by
    cases hv : v.ownBlock with
    | none => exact Or.inl rfl
    | some k => exact Or.inr fun e => by have := (h.lt k hv).2; cases e; exact absurd this (Nat.lt_irrefl _)⟩
theorem Pw.made {w wr : World} {v : Value} {n : Nat} {xs : List Value} (h : wr.ownsRow w.heap.size 36 257 v n xs) (hb : Below w.heap.size w wr) {st : Bool} {g : Nat → Bool} {cs : Array Value} (e : cs = pcells st g) : Pw w v n xs wr.heap.size st g (wr.alloc (.cells cs 36)) :=
  ⟨by rw [← e]; exact heap_alloc_new _ _, h.alloc _, hb.alloc hb.size _, hb.size, (Pw.first h hb).ne⟩
theorem zero_star : Tryd.zeroCells36.setIfInBounds 0 (.bool true) = pcells true fun _ => false := by rw [zeroPart, pcells_star]
theorem zero_at (c : Nat) (h : c < 256) : Tryd.zeroCells36.setIfInBounds (1 + c) (.bool true) = pcells false fun j => decide (j = c) := by
  rw [zeroPart, pcells_set _ _ _ _ h]
  refine pcells_congr fun j _ => ?_
  by_cases e : j = c
  · rw [if_pos e, decide_eq_true e]
  · rw [if_neg e, decide_eq_false e]
theorem put_at (j c : Nat) : (if j = c then true else false) = decide (j = c) := by
  by_cases e : j = c
  · rw [if_pos e, decide_eq_true e]
  · rw [if_neg e, decide_eq_false e]
section
variable {w u : World} {v : Value} {n B : Nat} {xs : List Value} {st : Bool} {g : Nat → Bool}
theorem Pw.put (h : Pw w v n xs B st g u) (c : Nat) (hc : c < 256) (b : Bool) : Pw w v n xs B st (fun j => if j = c then b else g j) (u.setCell ⟨B, 1 + c, none⟩ (.bool b)) :=
  ⟨set_part h.part c hc b, h.own.kept (row := some B) ⟨rfl, rfl, rfl, by simp [World.setCell], fun k _ hk => heap_setCell_other _ _ _ _ (fun e => hk (by rw [e]))⟩ h.ne, set_below h.bel h.ge, h.ge, h.ne⟩
theorem Pw.star (h : Pw w v n xs B st g u) (b : Bool) : Pw w v n xs B b g (u.setCell ⟨B, 0, none⟩ (.bool b)) :=
  ⟨by rw [heap_setCell_same u B 0 (pcells st g) 36 (.bool b) h.part, pcells_star], h.own.kept (row := some B) ⟨rfl, rfl, rfl, by simp [World.setCell], fun k _ hk => heap_setCell_other _ _ _ _ (fun e => hk (by rw [e]))⟩ h.ne, set_below h.bel h.ge, h.ge, h.ne⟩
theorem Pw.row (h : Pw w v n xs B st g u) (st' : Bool) (g' : Nat → Bool) : Pw w v n xs B st' g' (u.setRow B (pcells st' g')) :=
  ⟨setRow_heap _ _ _ _ _ _ h.part, h.own.kept (row := some B) ⟨rfl, rfl, rfl, by simp, fun k _ hk => setRow_other u B k _ (fun e => hk (by rw [e]))⟩ h.ne, below_setRow h.bel h.ge _, h.ge, h.ne⟩
theorem Pw.below {u2 : World} (h : Pw w v n xs B st g u) (hb : Below u.heap.size u u2) : Pw w v n xs B st g u2 :=
  ⟨by rw [hb.block B (Array.getElem?_eq_some_iff.1 h.part).1]; exact h.part, own_below h.own hb, h.bel.trans (hb.mono h.bel.size), h.ge, h.ne⟩
theorem Pw.congr {g' : Nat → Bool} (h : Pw w v n xs B st g u) (e : ∀ c, c < 256 → g c = g' c) : Pw w v n xs B st g' u := ⟨by rw [h.part, pcells_congr e], h.own, h.bel, h.ge, h.ne⟩
theorem Pw.free (h : Pw w v n xs B st g u) (c : Nat) : u.frozen? ⟨B, c, none⟩ = false := frozen_of_row u _ _ _ _ h.part
theorem Pw.cell (h : Pw w v n xs B st g u) (c : Nat) (hc : c < 256) : u.cell? ⟨B, 1 + c, none⟩ = some (.bool (g c)) := cell_part h.part c hc
theorem Pw.cell0 (h : Pw w v n xs B st g u) : u.cell? ⟨B, 0, none⟩ = some (.bool st) := by
  rw [cell_of_row u B 0 _ _ _ h.part]; rfl
end
def RPost (base : Nat) (l : Option (List (List UInt8))) (e : Ending) (w' : World) : Prop := match l with
  | none => e = .returned (.tuple #[.slice none 0 0, .bool false])
  | some ps => ∃ v, e = .returned (.tuple #[v, .bool true]) ∧ w'.ownsRow base 36 257 v ps.length (ps.flatMap pcl)
theorem parts_go {L : List UInt8} {i i' : Nat} {ps : List (List UInt8)} {p : List UInt8} (hi : i < L.length) (h : partsS L = (partsS (L.drop i)).map (ps ++ ·)) (hc : cutS (L.drop i) = some (p, L.drop i')) : partsS L = (partsS (L.drop i')).map ((ps ++ [p]) ++ ·) := by
  rw [h, partsS_cut (by intro e; have := congrArg List.length e; rw [List.length_drop] at this; simp at this; omega), hc]
  simp only [Option.bind_some, Option.map_map]
  congr 1
  funext l
  simp
theorem parts_no {L : List UInt8} {i : Nat} {ps : List (List UInt8)} (hi : i < L.length) (h : partsS L = (partsS (L.drop i)).map (ps ++ ·)) (hc : cutS (L.drop i) = none) : partsS L = none := by
  rw [h, partsS_cut (by intro e; have := congrArg List.length e; rw [List.length_drop] at this; simp at this; omega), hc]
  rfl
theorem flat_snoc (ps : List (List UInt8)) (p : List UInt8) {st : Bool} {g : Nat → Bool} (hs : stS p = st) (hg : ∀ c, c < 256 → pc p c = g c) : (ps ++ [p]).flatMap pcl = ps.flatMap pcl ++ (pcells st g).toList := by
  rw [List.flatMap_append]
  congr 1
  show pcl p ++ [] = _
  rw [List.append_nil]
  unfold pcl
  rw [hs, pcells_congr hg]
theorem vs_flat (c : Array Value) : ([Value.agg c].flatMap fun v => v.cells.toList).toArray = c.toList.toArray := by
  congr 1
  show c.toList ++ [] = _
  rw [List.append_nil]
theorem wpList_buildOne {P : Program} {ops : Array Oper} {rest : List Oper} {o : Oper} {a : Act} {w : World} {Q : Exit → Act → World → Prop} (hg : o.guard = none) (t e : TypeId) (parts : Array (Nat × Operand)) (s : Nat) (c : Array Value)
    (ho : o.op = .buildSlice t 1 parts) (tm : Nat) (N : Nat) (hN : w.heap.size = N) (dst : Option Tmp) (hdst : o.dst = dst)
    (hu : P.underlying t = some (.slice e)) (hsz : (P.info? e).map (·.size) = some s) (hz : ((P.info? e).bind (·.zero)).isSome = true)
    (hs : 0 < s) (hsmall : 1 * s ≤ 2 ^ 24) (hparts : parts.toList = [(0, Operand.tmp tm)]) (h1 : c.size = s) (hev : a.eval (.tmp tm) = .agg c)
    (h : wpList P ops Q rest (a.put dst (.slice (some ⟨N, 0, none⟩) 1 1)) (w.alloc (.cells c e))) : wpList P ops Q (o :: rest) a w := by
  refine Go.Great.wpList_buildRows hg t e parts s [.agg c] ho (fun _ => tm) N hN dst hdst hu hsz hz hs Nat.one_pos hsmall hparts ?_ ?_ ?_
  · intro v hv
    rw [List.mem_singleton] at hv
    subst hv
    exact h1
  · intro i hi
    obtain rfl : i = 0 := by simpa using hi
    exact hev
  · rw [vs_flat, Array.toArray_toList]
    exact h
theorem row_cells (w : World) (c : Array Value) (t : TypeId) (j : Nat) (u : Value) (h : c.toList[j]? = some u) : (w.alloc (.cells c t)).cell? (Addr.add ⟨w.heap.size, 0, none⟩ j) = some u := by
  rw [Addr.add_lit]
  rw [cell_of_row _ _ _ _ _ _ (heap_alloc_new _ _)]
  simpa using h
theorem infoP : ((Tryd.prog.info? 36).bind (·.zero)).isSome = true := by kernel_rfl
end Go.Proofs.YtefomcoimbnalaaDoor.Gw
