/- What a desk's places do, walked: get, Close, Count, Open, whatever places are used; what House.Stat answers is given. Conditions: as the theorems state them. -/
import Derived.Test.YtdomphkodeamgaaGreatDoorProg
import Derived.Below
import Derived.OwnWalk
import Derived.Tactics
import Derived.WalkKit
import Derived.KernelRfl
import Derived.BigQuiet
import Derived.Deep.QuietTactic
import Derived.Deep.LoopGhost
import Derived.WideLaws
import Derived.BigFrame
import Derived.WalkMore
import Derived.Deep.MidRow
import Derived.Laws.Rows
import Derived.Laws.Tables
import Derived.Laws.CopyOwn
import Derived.Deep.RegionHeld3
namespace Go.Proofs.YtdomphkodeamgaaGreatDoor.DeskP
open Go Go.RowKit
structure Aside0 (p : Prop) : Prop where
  mk :: out : p
set_option maxRecDepth 100000
set_option maxHeartbeats 8000000
abbrev dcells (hv : Value) (ps : Nat → Option Addr) : Array Value := #[hv, .pointer (ps 0), .pointer (ps 1), .pointer (ps 2), .pointer (ps 3), .pointer (ps 4), .pointer (ps 5), .pointer (ps 6), .pointer (ps 7)]
/-- a desk in memory: its house, its places -/
def DeskAt (w : World) (D : Nat) (hv : Value) (ps : Nat → Option Addr) : Prop := ∃ l, w.heap[D]? = some (.cells (dcells hv ps) 54 (l, l))
theorem lt8 {j : Nat} (h : j < 8) : j = 0 ∨ j = 1 ∨ j = 2 ∨ j = 3 ∨ j = 4 ∨ j = 5 ∨ j = 6 ∨ j = 7 := by omega
theorem dcells_at (hv : Value) (ps : Nat → Option Addr) {j : Nat} (h : j < 8) : (dcells hv ps)[1 + j]? = some (.pointer (ps j)) := by
  rcases lt8 h with rfl | rfl | rfl | rfl | rfl | rfl | rfl | rfl <;> rfl
theorem DeskAt.cell {w : World} {D : Nat} {hv : Value} {ps : Nat → Option Addr} (h : DeskAt w D hv ps) {j : Nat} (hj : j < 8) : w.cell? ⟨D, 1 + j, none⟩ = some (.pointer (ps j)) := by
  obtain ⟨l, h⟩ := h
  rw [cell_of_row _ _ _ _ _ _ h]
  exact dcells_at hv ps hj
theorem DeskAt.house {w : World} {D : Nat} {hv : Value} {ps : Nat → Option Addr} (h : DeskAt w D hv ps) : w.cell? ⟨D, 0, none⟩ = some hv := by
  obtain ⟨l, h⟩ := h
  rw [cell_of_row _ _ _ _ _ _ h]
  rfl
theorem DeskAt.soft {w : World} {D : Nat} {hv : Value} {ps : Nat → Option Addr} (h : DeskAt w D hv ps) (j : Nat) : w.frozen? ⟨D, j, none⟩ = false := by
  obtain ⟨l, h⟩ := h
  simp only [World.frozen?, h]
  simp
theorem DeskAt.lt {w : World} {D : Nat} {hv : Value} {ps : Nat → Option Addr} (h : DeskAt w D hv ps) : D < w.heap.size := by
  obtain ⟨l, h⟩ := h
  exact (Array.getElem?_eq_some_iff.1 h).1
theorem DeskAt.same {w w' : World} {D : Nat} {hv : Value} {ps : Nat → Option Addr} (h : DeskAt w D hv ps) (e : w'.heap[D]? = w.heap[D]?) : DeskAt w' D hv ps := by
  obtain ⟨l, h⟩ := h
  exact ⟨l, e.trans h⟩
def upd (ps : Nat → Option Addr) (k : Nat) (q : Option Addr) : Nat → Option Addr := fun j => if j = k then q else ps j
theorem set_same (w : World) (g i : Nat) (cs : Array Value) (t : TypeId) (fr : Nat × Nat) (v : Value) (hg : w.heap[g]? = some (.cells cs t fr)) : (w.setCell ⟨g, i, none⟩ v).heap[g]? = some (.cells (cs.setIfInBounds i v) t fr) := by
  simp [World.setCell, Array.getElem?_modify, hg]
theorem DeskAt.put {w : World} {D : Nat} {hv : Value} {ps : Nat → Option Addr} (h : DeskAt w D hv ps) {k : Nat} (hk : k < 8) (q : Option Addr) : DeskAt (w.setCell ⟨D, 1 + k, none⟩ (.pointer q)) D hv (upd ps k q) := by
  obtain ⟨l, h⟩ := h
  refine ⟨l, (set_same _ _ _ _ _ _ _ h).trans ?_⟩
  congr 2
  rcases lt8 hk with rfl | rfl | rfl | rfl | rfl | rfl | rfl | rfl <;> rfl
theorem cell_below {w wx : World} (hb : Below w.heap.size w wx) {a : Addr} {v : Value} (h : w.cell? a = some v) : wx.cell? a = some v := by
  have hl : a.block < w.heap.size := by
    unfold World.cell? at h
    cases hh : w.heap[a.block]? with
    | none => rw [hh] at h; cases h
    | some o => exact (Array.getElem?_eq_some_iff.1 hh).1
  unfold World.cell? at h ⊢
  rw [hb.block a.block hl]
  exact h
theorem get_bad (D : Nat) (hv : Value) (ps : Nat → Option Addr) (k : Nat) (hk : k < 8) (hp : ps k = none) (w : World) (h : DeskAt w D hv ps) :
    Calls Tryz.prog 19 #[.pointer (some ⟨D, 0, none⟩), .int .i64 (k : Int)] w fun e w' => e = .returned (.tuple #[.pointer none, .int .i64 1]) ∧ Below w.heap.size w w' := by
  have HB := Aside0.mk (Below.refl w.heap.size w)
  have x1 := h.cell hk
  rw [hp] at x1
  have g1 : decide ((k : Int) < 0) = false := decide_eq_false (by omega)
  have g2 : decide ((k : Int) ≥ 8) = false := decide_eq_false (by omega)
  have g3 : decide (8 ≤ (k : Int)) = false := decide_eq_false (by omega)
  have g4 : (0 ≤ (k : Int)) = True := eq_true (by omega)
  have g5 : ((k : Int) < 8) = True := eq_true (by omega)
  clear h hp hk
  go_enter Tryz.func19, Tryz.ntmps19
  go_wp2
  refine bodyPost_ret (results_tmp2 rfl _ _ _) rfl ?_
  exact ⟨rfl, HB.out⟩
theorem get_ok (D : Nat) (hv : Value) (ps : Nat → Option Addr) (k : Nat) (hk : k < 8) (a : Addr) (hp : ps k = some a) (w : World) (h : DeskAt w D hv ps) :
    Calls Tryz.prog 19 #[.pointer (some ⟨D, 0, none⟩), .int .i64 (k : Int)] w fun e w' => e = .returned (.tuple #[.pointer (some a), .int .i64 0]) ∧ Below w.heap.size w w' := by
  have HB := Aside0.mk (Below.refl w.heap.size w)
  have x1 := h.cell hk
  rw [hp] at x1
  have g1 : decide ((k : Int) < 0) = false := decide_eq_false (by omega)
  have g2 : decide ((k : Int) ≥ 8) = false := decide_eq_false (by omega)
  have g3 : decide (8 ≤ (k : Int)) = false := decide_eq_false (by omega)
  have g4 : (0 ≤ (k : Int)) = True := eq_true (by omega)
  have g5 : ((k : Int) < 8) = True := eq_true (by omega)
  clear h hp hk
  go_enter Tryz.func19, Tryz.ntmps19
  go_wp2
  refine bodyPost_ret (results_tmp2 rfl _ _ _) rfl ?_
  exact ⟨rfl, HB.out⟩
theorem close_bad (D : Nat) (hv : Value) (ps : Nat → Option Addr) (k : Nat) (hk : k < 8) (hp : ps k = none) (w : World) (h : DeskAt w D hv ps) :
    Calls Tryz.prog 7 #[.pointer (some ⟨D, 0, none⟩), .int .i64 (k : Int)] w fun e w' => e = .returned (.int .i64 1) ∧ Below w.heap.size w w' := by
  have C := Aside0.mk (get_bad D hv ps k hk hp w h)
  clear h hp hk
  go_enter Tryz.func7, Tryz.ntmps7
  go_wp2_with (go_at_call 19; (with_reducible refine C.out.mono ?_); rintro e w' ⟨rfl, hb⟩)
  go_ret
  exact ⟨rfl, hb⟩
theorem close_ok (D : Nat) (hv : Value) (ps : Nat → Option Addr) (k : Nat) (hk : k < 8) (a : Addr) (hp : ps k = some a) (w : World) (h : DeskAt w D hv ps) :
    Calls Tryz.prog 7 #[.pointer (some ⟨D, 0, none⟩), .int .i64 (k : Int)] w fun e w' => e = .returned (.int .i64 0) ∧ ∃ w1, Below w.heap.size w w1 ∧ w' = w1.setCell ⟨D, 1 + k, none⟩ (.pointer none) := by
  have C := Aside0.mk (get_ok D hv ps k hk a hp w h)
  have x1 := h.cell hk
  have x2 := h.soft (1 + k)
  have HD := Aside0.mk h
  have g4 : (0 ≤ (k : Int)) = True := eq_true (by omega)
  have g5 : ((k : Int) < 8) = True := eq_true (by omega)
  clear h hp hk
  go_enter Tryz.func7, Tryz.ntmps7
  go_wp2_with (go_at_call 19; (with_reducible refine C.out.mono ?_); rintro e w' ⟨rfl, hb⟩; have y1 := cell_below hb x1; have y2 := (HD.out.same (hb.block _ HD.out.lt)).soft (1 + k))
  go_ret
  exact ⟨rfl, _, hb, rfl⟩
def cnt (us : Nat → Bool) : Nat → Nat
  | 0 => 0
  | i + 1 => cnt us i + (if us i then 1 else 0)
theorem cnt_le (us : Nat → Bool) : ∀ i, cnt us i ≤ i
  | 0 => Nat.le_refl _
  | i + 1 => by have := cnt_le us i; simp only [cnt]; split <;> omega
theorem DeskAt.range {w : World} {D : Nat} {hv : Value} {ps : Nat → Option Addr} (h : DeskAt w D hv ps) : w.rangeAt D 1 [.pointer (ps 0), .pointer (ps 1), .pointer (ps 2), .pointer (ps 3), .pointer (ps 4), .pointer (ps 5), .pointer (ps 6), .pointer (ps 7)] := by
  intro j v hv'
  have hj : j < 8 := by
    have := (List.getElem?_eq_some_iff.1 hv').1
    simpa using this
  rw [h.cell hj]
  rcases lt8 hj with rfl | rfl | rfl | rfl | rfl | rfl | rfl | rfl <;> simpa using hv'
abbrev pagg (ps : Nat → Option Addr) : Value := .agg #[.pointer (ps 0), .pointer (ps 1), .pointer (ps 2), .pointer (ps 3), .pointer (ps 4), .pointer (ps 5), .pointer (ps 6), .pointer (ps 7)]
theorem info52 : (Tryz.prog.info? 52).map (·.size) = some 8 := by kernel_rfl
theorem und52 : Tryz.prog.underlying 52 = some (.array 8 49) := by kernel_rfl
section
variable {w : World} (v0 v1 v2 v3 v4 v5 v6 v7 : Value)
theorem idx0 : (Instr.index 52 (.agg #[v0, v1, v2, v3, v4, v5, v6, v7]) (.int .i64 0)).run Tryz.prog w = .ok v0 w := by
  simp [Instr.index, run_underlying und52, asIntOf, go_sem]
theorem idx1 : (Instr.index 52 (.agg #[v0, v1, v2, v3, v4, v5, v6, v7]) (.int .i64 1)).run Tryz.prog w = .ok v1 w := by
  simp [Instr.index, run_underlying und52, asIntOf, go_sem]
theorem idx2 : (Instr.index 52 (.agg #[v0, v1, v2, v3, v4, v5, v6, v7]) (.int .i64 2)).run Tryz.prog w = .ok v2 w := by
  simp [Instr.index, run_underlying und52, asIntOf, go_sem]
theorem idx3 : (Instr.index 52 (.agg #[v0, v1, v2, v3, v4, v5, v6, v7]) (.int .i64 3)).run Tryz.prog w = .ok v3 w := by
  simp [Instr.index, run_underlying und52, asIntOf, go_sem]
theorem idx4 : (Instr.index 52 (.agg #[v0, v1, v2, v3, v4, v5, v6, v7]) (.int .i64 4)).run Tryz.prog w = .ok v4 w := by
  simp [Instr.index, run_underlying und52, asIntOf, go_sem]
theorem idx5 : (Instr.index 52 (.agg #[v0, v1, v2, v3, v4, v5, v6, v7]) (.int .i64 5)).run Tryz.prog w = .ok v5 w := by
  simp [Instr.index, run_underlying und52, asIntOf, go_sem]
theorem idx6 : (Instr.index 52 (.agg #[v0, v1, v2, v3, v4, v5, v6, v7]) (.int .i64 6)).run Tryz.prog w = .ok v6 w := by
  simp [Instr.index, run_underlying und52, asIntOf, go_sem]
theorem idx7 : (Instr.index 52 (.agg #[v0, v1, v2, v3, v4, v5, v6, v7]) (.int .i64 7)).run Tryz.prog w = .ok v7 w := by
  simp [Instr.index, run_underlying und52, asIntOf, go_sem]
end
abbrev plist (ps : Nat → Option Addr) : List Value := [.pointer (ps 0), .pointer (ps 1), .pointer (ps 2), .pointer (ps 3), .pointer (ps 4), .pointer (ps 5), .pointer (ps 6), .pointer (ps 7)]
theorem idx_at (ps : Nat → Option Addr) (i : Nat) (h : i < 8) (o : Option Addr) (ho : ps i = o) (L : List Value) (hL : L = plist ps) (W : World) : (Instr.index 52 (.agg L.toArray) (.int .i64 (i : Int))).run Tryz.prog W = .ok (.pointer o) W := by
  subst hL
  subst ho
  rcases lt8 h with rfl | rfl | rfl | rfl | rfl | rfl | rfl | rfl
  · exact idx0 _ _ _ _ _ _ _ _
  · exact idx1 _ _ _ _ _ _ _ _
  · exact idx2 _ _ _ _ _ _ _ _
  · exact idx3 _ _ _ _ _ _ _ _
  · exact idx4 _ _ _ _ _ _ _ _
  · exact idx5 _ _ _ _ _ _ _ _
  · exact idx6 _ _ _ _ _ _ _ _
  · exact idx7 _ _ _ _ _ _ _ _
theorem count_calls (D : Nat) (hv : Value) (ps : Nat → Option Addr) (w : World) (h : DeskAt w D hv ps) :
    Calls Tryz.prog 9 #[.pointer (some ⟨D, 0, none⟩)] w fun e w' => e = .returned (.int .i64 (cnt (fun j => (ps j).isSome) 8)) ∧ Below w.heap.size w w' := by
  have HR := Aside0.mk h.range
  obtain ⟨L, hL⟩ : ∃ L, L = plist ps := ⟨_, rfl⟩
  have HI := Aside0.mk (fun i hi o ho W => idx_at ps i hi o ho L hL W)
  have HN := Aside0.mk (show (Tryz.prog.info? 52).map (·.size) = some L.length by rw [hL]; exact info52)
  replace HR : Aside0 (w.rangeAt D 1 L) := ⟨by rw [hL]; exact HR.out⟩
  clear h hL
  go_enter Tryz.func9, Tryz.ntmps9
  go_wp2_with (refine wpList_load_mid rfl 52 _ rfl D 1 rfl L _ HR.out und52 rfl HN.out ?_)
  go_loopg [3, 13] 8 (fun kq v3 v13 wx => ∃ i : Nat, v3 = .int .i64 (cnt (fun j => (ps j).isSome) i : Nat) ∧ v13 = .int .i64 (i : Int) ∧ i ≤ 8 ∧ 8 ≤ i + kq ∧ Aside0 (Below w.heap.size w wx))
  case atStart => exact ⟨0, rfl, rfl, by omega, by omega, ⟨Below.refl _ w⟩⟩
  case round =>
    obtain ⟨i, rfl, rfl, hi, hfu, HB⟩ := hrel
    by_cases hlt : i < 8
    · obtain ⟨k1, rfl⟩ : ∃ k1, gk = k1 + 1 := ⟨gk - 1, by omega⟩
      obtain ⟨o, ho⟩ : ∃ o, ps i = o := ⟨_, rfl⟩
      have hc : cnt (fun j => (ps j).isSome) (i + 1) = cnt (fun j => (ps j).isSome) i + (if o.isSome then 1 else 0) := by rw [← ho]; rfl
      have hle := cnt_le (fun j => (ps j).isSome) i
      have hw1 : wrap64 ((cnt (fun j => (ps j).isSome) i : Nat) + 1 : Int) = ((cnt (fun j => (ps j).isSome) i + 1 : Nat) : Int) := by simp only [wrap64]; omega
      have HC := Aside0.mk hc
      have HW := Aside0.mk hw1
      clear hc hw1
      generalize cnt (fun j => (ps j).isSome) i = c0 at *
      have hwi : wrap64 ((i : Int) + 1) = ((i + 1 : Nat) : Int) := by simp only [wrap64]; omega
      have g1 : decide ((i : Int) < 8) = true := decide_eq_true (by omega)
      have x1 := HI.out i hlt o ho
      have HF := Aside0.mk (And.intro hlt hfu)
      clear ho hle hlt hi hfu
      cases o with
      | none =>
        go_wp2
        go_roundg k1
        case measure => omega
        case rel => exact ⟨i + 1, by rw [HC.out]; rfl, by first | rfl | (rw [hwi]; done), by have := HF.out; omega, by have := HF.out; omega, HB⟩
      | some a =>
        go_wp2
        go_roundg k1
        case measure => omega
        case rel => exact ⟨i + 1, by rw [HC.out]; first | rfl | (rw [HW.out]; rfl), by first | rfl | (rw [hwi]; done), by have := HF.out; omega, by have := HF.out; omega, HB⟩
    · obtain rfl : i = 8 := by omega
      go_wp2
      go_ret
      exact ⟨rfl, HB.out⟩
theorem info56 : (Tryz.prog.info? 56).map (·.size) = some 4 := by kernel_rfl
theorem new_row {w1 : World} {D : Nat} {hv : Value} {ps : Nat → Option Addr} (o : Obj) (cs : Array Value) (h : DeskAt w1 D hv ps) : DeskAt ((w1.alloc o).setRow w1.heap.size cs) D hv ps := by
  refine h.same ?_
  rw [setRow_other _ _ _ _ (Nat.ne_of_lt h.lt), heap_alloc_old _ _ h.lt]
theorem new_cell (w1 : World) (a b c d : Value) (old : Array Value) (t : TypeId) (j : Nat) : ((w1.alloc (.cells old t (0, 0))).setRow w1.heap.size #[a, b, c, d]).cell? ⟨w1.heap.size, j, none⟩ = (#[a, b, c, d] : Array Value)[j]? :=
  cell_of_row _ _ _ _ _ _ (setRow_heap _ _ _ _ _ _ (heap_alloc_new _ _))
theorem open_ok (D : Nat) (hv : Value) (ps : Nat → Option Addr) (path : ByteArray) (id x y : Int) (k : Nat) (hk : k < 8) (hp : ps k = none) (hq : ∀ j, j < k → (ps j).isSome = true) (w : World) (h : DeskAt w D hv ps)
    (R : World → Prop) (RD : ∀ u, R u → DeskAt u D hv ps) (SC : Calls Tryz.prog 20 #[hv, .string path] w fun e w' => e = .returned (.tuple #[.agg #[.int .i64 id, .int .i64 1, .int .i64 x, .int .i64 y], .int .i64 0]) ∧ R w') :
    Calls Tryz.prog 8 #[.pointer (some ⟨D, 0, none⟩), .string path] w fun e w' => e = .returned (.tuple #[.int .i64 (k : Int), .int .i64 0]) ∧ ∃ w1 w2 a, R w1 ∧ Below w1.heap.size w1 w2 ∧ w' = w2.setCell ⟨D, 1 + k, none⟩ (.pointer (some a)) := by
  have C := Aside0.mk SC
  have RD := Aside0.mk RD
  have x0 := h.house
  obtain ⟨L, hL⟩ : ∃ L, L = plist ps := ⟨_, rfl⟩
  have HI := Aside0.mk (fun i hi o ho W => idx_at ps i hi o ho L hL W)
  have HN := Aside0.mk (show (Tryz.prog.info? 52).map (·.size) = some L.length by rw [hL]; exact info52)
  have HR := Aside0.mk (fun (u : World) (h : DeskAt u D hv ps) => (show u.rangeAt D 1 L by rw [hL]; exact h.range))
  have HP := Aside0.mk (And.intro hk (And.intro hp hq))
  clear h SC hL hk hp hq
  go_enter Tryz.func8, Tryz.ntmps8
  go_wp2_with (first
    | (go_at_call 20; (with_reducible refine C.out.mono ?_); rintro e w1 ⟨rfl, hR⟩; have HD := Aside0.mk (RD.out _ hR))
    | (refine wpList_store_row rfl 56 _ _ rfl w1.heap.size #[.int .i64 id, .int .i64 1, .int .i64 x, .int .i64 y] rfl rfl 56 _ (heap_alloc_new _ _) info56 rfl (by kernel_rfl) ?_; have y0 := (new_cell w1 (.int .i64 id) (.int .i64 1) (.int .i64 x) (.int .i64 y) #[.int .i64 0, .int .i64 0, .int .i64 0, .int .i64 0] 56 0).trans rfl; have y1 := (new_cell w1 (.int .i64 id) (.int .i64 1) (.int .i64 x) (.int .i64 y) #[.int .i64 0, .int .i64 0, .int .i64 0, .int .i64 0] 56 1).trans rfl; have HD2 := Aside0.mk (new_row (.cells #[.int .i64 0, .int .i64 0, .int .i64 0, .int .i64 0] 56) #[.int .i64 id, .int .i64 1, .int .i64 x, .int .i64 y] HD.out))
    | (refine wpList_load_mid rfl 52 _ rfl D 1 rfl L _ (HR.out _ HD2.out) und52 rfl HN.out ?_))
  generalize hw2 : (w1.alloc _).setRow w1.heap.size _ = w2 at *
  have HB2 : Aside0 (Below w1.heap.size w1 w2) := ⟨by rw [← hw2]; exact below_setRow ((Below.refl w1.heap.size w1).alloc (Nat.le_refl _) _) (Nat.le_refl _) _⟩
  have HR1 := Aside0.mk hR
  clear hw2 hR
  go_loopg [33] 8 (fun kq v33 wx => ∃ i : Nat, v33 = .int .i64 (i : Int) ∧ i ≤ k ∧ 8 ≤ i + kq ∧ Aside0 (wx = w2))
  case atStart => exact ⟨0, rfl, by omega, by omega, ⟨rfl⟩⟩
  case round =>
    obtain ⟨i, rfl, hi, hfu, HE⟩ := hrel
    obtain rfl := HE.out
    clear HE
    obtain ⟨hk, hp, hq⟩ := HP.out
    obtain ⟨k1, rfl⟩ : ∃ k1, gk = k1 + 1 := ⟨gk - 1, by omega⟩
    have g1 : decide ((i : Int) < 8) = true := decide_eq_true (by omega)
    by_cases hlt : i < k
    · obtain ⟨a, ha⟩ : ∃ a, ps i = some a := Option.isSome_iff_exists.1 (hq i hlt)
      have x1 := HI.out i (by omega) _ ha
      have hwi : wrap64 ((i : Int) + 1) = ((i + 1 : Nat) : Int) := by simp only [wrap64]; omega
      have HF := Aside0.mk (And.intro hlt hfu)
      clear ha hlt hi hfu hk hp hq
      go_wp2
      go_roundg k1
      case measure => omega
      case rel => exact ⟨i + 1, by first | rfl | (rw [hwi]; done), by have := HF.out; omega, by have := HF.out; omega, ⟨rfl⟩⟩
    · obtain rfl : i = k := by omega
      have x1 := HI.out i hk _ hp
      have x2 := HD2.out.cell hk
      have x3 := HD2.out.soft (1 + i)
      have g4 : (0 ≤ (i : Int)) = True := eq_true (by omega)
      have g5 : ((i : Int) < 8) = True := eq_true (by omega)
      clear hlt hi hfu hk hp hq
      go_wp2
      have HD3 := HD2.out.same (w' := wr.alloc (.cells #[.string path, .int .i64 id, .int .i64 0] 60)) (heap_alloc_old _ _ HD2.out.lt)
      have x4 := HD3.cell (HP.out.1)
      have x5 := HD3.soft (1 + i)
      clear HD3
      go_region
      go_wp2
      refine bodyPost_ret (results_tmp2 rfl _ _ _) rfl ?_
      exact ⟨rfl, _, _, _, HR1.out, (HB2.out.alloc HB2.out.size _).drew, rfl⟩
theorem open_full (D : Nat) (hv : Value) (ps : Nat → Option Addr) (path : ByteArray) (id x y : Int) (hq : ∀ j, j < 8 → (ps j).isSome = true) (w : World) (h : DeskAt w D hv ps)
    (R : World → Prop) (RD : ∀ u, R u → DeskAt u D hv ps) (SC : Calls Tryz.prog 20 #[hv, .string path] w fun e w' => e = .returned (.tuple #[.agg #[.int .i64 id, .int .i64 1, .int .i64 x, .int .i64 y], .int .i64 0]) ∧ R w') :
    Calls Tryz.prog 8 #[.pointer (some ⟨D, 0, none⟩), .string path] w fun e w' => e = .returned (.tuple #[.int .i64 0, .int .i64 12]) ∧ ∃ w1, R w1 ∧ Below w1.heap.size w1 w' := by
  have C := Aside0.mk SC
  have RD := Aside0.mk RD
  have x0 := h.house
  obtain ⟨L, hL⟩ : ∃ L, L = plist ps := ⟨_, rfl⟩
  have HI := Aside0.mk (fun i hi o ho W => idx_at ps i hi o ho L hL W)
  have HN := Aside0.mk (show (Tryz.prog.info? 52).map (·.size) = some L.length by rw [hL]; exact info52)
  have HR := Aside0.mk (fun (u : World) (h : DeskAt u D hv ps) => (show u.rangeAt D 1 L by rw [hL]; exact h.range))
  have HP := Aside0.mk hq
  clear h SC hL hq
  go_enter Tryz.func8, Tryz.ntmps8
  go_wp2_with (first
    | (go_at_call 20; (with_reducible refine C.out.mono ?_); rintro e w1 ⟨rfl, hR⟩; have HD := Aside0.mk (RD.out _ hR))
    | (refine wpList_store_row rfl 56 _ _ rfl w1.heap.size #[.int .i64 id, .int .i64 1, .int .i64 x, .int .i64 y] rfl rfl 56 _ (heap_alloc_new _ _) info56 rfl (by kernel_rfl) ?_; have y0 := (new_cell w1 (.int .i64 id) (.int .i64 1) (.int .i64 x) (.int .i64 y) #[.int .i64 0, .int .i64 0, .int .i64 0, .int .i64 0] 56 0).trans rfl; have y1 := (new_cell w1 (.int .i64 id) (.int .i64 1) (.int .i64 x) (.int .i64 y) #[.int .i64 0, .int .i64 0, .int .i64 0, .int .i64 0] 56 1).trans rfl; have HD2 := Aside0.mk (new_row (.cells #[.int .i64 0, .int .i64 0, .int .i64 0, .int .i64 0] 56) #[.int .i64 id, .int .i64 1, .int .i64 x, .int .i64 y] HD.out))
    | (refine wpList_load_mid rfl 52 _ rfl D 1 rfl L _ (HR.out _ HD2.out) und52 rfl HN.out ?_))
  generalize hw2 : (w1.alloc _).setRow w1.heap.size _ = w2 at *
  have HB2 : Aside0 (Below w1.heap.size w1 w2) := ⟨by rw [← hw2]; exact below_setRow ((Below.refl w1.heap.size w1).alloc (Nat.le_refl _) _) (Nat.le_refl _) _⟩
  have HR1 := Aside0.mk hR
  clear hw2 hR
  go_loopg [33] 8 (fun kq v33 wx => ∃ i : Nat, v33 = .int .i64 (i : Int) ∧ i ≤ 8 ∧ 8 ≤ i + kq ∧ Aside0 (wx = w2))
  case atStart => exact ⟨0, rfl, by omega, by omega, ⟨rfl⟩⟩
  case round =>
    obtain ⟨i, rfl, hi, hfu, HE⟩ := hrel
    obtain rfl := HE.out
    clear HE
    by_cases hlt : i < 8
    · obtain ⟨k1, rfl⟩ : ∃ k1, gk = k1 + 1 := ⟨gk - 1, by omega⟩
      have g1 : decide ((i : Int) < 8) = true := decide_eq_true (by omega)
      obtain ⟨a, ha⟩ : ∃ a, ps i = some a := Option.isSome_iff_exists.1 (HP.out i hlt)
      have x1 := HI.out i (by omega) _ ha
      have hwi : wrap64 ((i : Int) + 1) = ((i + 1 : Nat) : Int) := by simp only [wrap64]; omega
      have HF := Aside0.mk (And.intro hlt hfu)
      clear ha hlt hi hfu
      go_wp2
      go_roundg k1
      case measure => omega
      case rel => exact ⟨i + 1, by first | rfl | (rw [hwi]; done), by have := HF.out; omega, by have := HF.out; omega, ⟨rfl⟩⟩
    · obtain rfl : i = 8 := by omega
      clear hlt hi hfu
      go_wp2
      refine bodyPost_ret (results_tmp2 rfl _ _ _) rfl ?_
      exact ⟨rfl, _, HR1.out, HB2.out⟩
end Go.Proofs.YtdomphkodeamgaaGreatDoor.DeskP
