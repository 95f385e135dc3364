/- The reference's reading of a card (wainwrightref09.Read), walked by hand: for each format, under the contracts of what it calls. Conditions: as the theorems state them. -/
import Derived.Test.YtgigoogekimgkaaGCrdx0
import Derived.Test.YtgigoogekimgkaaPlain
import Derived.Test.YtgigoogekimgkaaNine
import Derived.Laws.Cover3
namespace Go.Proofs.Ytgigoogekimgkaa.GCrd
open Go.RowKit Go.Proofs.YtgigoogekimgkaaW.PrintWords Go.Proofs.YtgigoogekimgkaaW.PrintLast Go.Proofs.YtgigoogekimgkaaW.PrintMore
theorem RR.info25 : (Try.prog.info? 25).map (·.size) = some 9 := by kernel_rfl
theorem RR.alloc_size (w : World) (o : Obj) : (w.alloc o).heap.size = w.heap.size + 1 := Array.size_push _
theorem RR.put_size (w : World) (p : Addr) (v : Value) : (w.setCell p v).heap.size = w.heap.size := by simp [World.setCell]
/-- the result's row, the card's row, all else below untouched -/
structure RR.Rw (w : World) (cs : Array Value) (u : World) : Prop where
  res : u.heap[w.heap.size]? = some (.cells #[.int .i64 0, .int .i64 0, .int .i64 0, .int .i64 0, .slice none 0 0, .int .i64 0, .int .i64 0, .slice none 0 0, .int .i64 0] 25 (0, 0))
  c : u.heap[w.heap.size + 1]? = some (.cells cs 25 (0, 0))
  bel : Below w.heap.size w u
theorem RR.Rw.first (w : World) : RR.Rw w #[.int .i64 0, .int .i64 0, .int .i64 0, .int .i64 0, .slice none 0 0, .int .i64 0, .int .i64 0, .slice none 0 0, .int .i64 0] ((w.alloc (.cells #[.int .i64 0, .int .i64 0, .int .i64 0, .int .i64 0, .slice none 0 0, .int .i64 0, .int .i64 0, .slice none 0 0, .int .i64 0] 25)).alloc (.cells #[.int .i64 0, .int .i64 0, .int .i64 0, .int .i64 0, .slice none 0 0, .int .i64 0, .int .i64 0, .slice none 0 0, .int .i64 0] 25)) :=
  ⟨heap_alloc2_old _ _ _, heap_alloc2_new _ _ _, ((Below.refl w.heap.size w).alloc (Nat.le_refl _) _).alloc (by rw [RR.alloc_size]; exact Nat.le_succ _) _⟩
section
variable {w u u2 : World} {cs : Array Value}
theorem RR.Rw.below (h : RR.Rw w cs u) (hb : Below u.heap.size u u2) : RR.Rw w cs u2 :=
  ⟨by rw [hb.block _ (Array.getElem?_eq_some_iff.1 h.res).1]; exact h.res, by rw [hb.block _ (Array.getElem?_eq_some_iff.1 h.c).1]; exact h.c, h.bel.trans (hb.mono h.bel.size)⟩
theorem RR.Rw.alloc (h : RR.Rw w cs u) (o : Obj) : RR.Rw w cs (u.alloc o) :=
  ⟨(heap_alloc_old _ _ (Array.getElem?_eq_some_iff.1 h.res).1).trans h.res, (heap_alloc_old _ _ (Array.getElem?_eq_some_iff.1 h.c).1).trans h.c, h.bel.alloc h.bel.size _⟩
theorem RR.Rw.put (h : RR.Rw w cs u) (k : Nat) (v : Value) : RR.Rw w (cs.setIfInBounds k v) (u.setCell ⟨w.heap.size + 1, k, none⟩ v) :=
  ⟨by rw [heap_setCell_other u _ _ _ (Nat.ne_of_lt (Nat.lt_succ_self _))]; exact h.res, heap_setCell_same u _ k cs 25 v h.c, below_set h.bel (Nat.le_succ _)⟩
theorem RR.Rw.size (h : RR.Rw w cs u) : w.heap.size + 2 ≤ u.heap.size := (Array.getElem?_eq_some_iff.1 h.c).1
end
theorem RR.lit_C (W : World) (n : Nat) (hn : W.heap.size = n) (ws : List Int) (hm : ws.length ≤ 100) : Kd.C (Kd.int .i64) (W.alloc (.cells (ws.map (Value.int .i64)).toArray 3)) (some ⟨n, 0, none⟩) ws.length ws := by
  subst hn
  refine ⟨rfl, by omega, fun _ => ⟨_, rfl, fun j p hp => ⟨[.int .i64 p], rfl, rfl, fun i u hu => ?_⟩⟩⟩
  cases i with
  | succ i => simp at hu
  | zero =>
    obtain rfl : Value.int .i64 p = u := by simpa using hu
    show World.cell? _ (Addr.add ⟨W.heap.size, 0, none⟩ (j * 1 + 0)) = _
    rw [Addr.add_lit, cell_of_row _ _ _ _ _ _ (heap_alloc_new _ _)]
    simp [hp]
/-- a row of numbers that was got: its cells -/
def RR.Got (g : Nat) (xs : List Int) (u : World) : Prop := ∃ cs : Array Value, u.heap[g]? = some (.cells cs 3 (0, 0)) ∧ ∀ i : Nat, i < xs.length → cs[i]? = some (.int .i64 (rd xs (i : Int)))
theorem RR.got {W w2 : World} {v : Value} {xs : List Int} {n : Nat} (h : Kd.R (Kd.int .i64) 3 w2 W.heap.size (fun _ => True) v xs) (hn : xs.length = n + 1) : ∃ g cap, v = .slice (some ⟨g, 0, none⟩) (n + 1) cap ∧ n + 1 ≤ cap ∧ W.heap.size ≤ g ∧ RR.Got g xs w2 := by
  obtain ⟨g, cap, rfl, hb, hl, cs, hc⟩ := Kd.R_form h (by omega)
  rw [← hn]
  refine ⟨g, cap, rfl, (Kd.R_reads' h).2.1, hb, cs, hc, fun i hi => ?_⟩
  obtain ⟨ad, e, hx⟩ := Kd.at_int (Kd.R_reads' h).2.2 (i : Int) (by omega) (by omega)
  cases e
  rwa [Addr.add_lit, Nat.zero_add, Int.toNat_natCast, cell_of_row _ _ _ _ _ _ hc] at hx
section
variable {u u2 : World} {g : Nat} {xs : List Int}
theorem RR.Got.cell (h : RR.Got g xs u) (i : Nat) (hi : i < xs.length) : u.cell? ⟨g, i, none⟩ = some (.int .i64 (rd xs (i : Int))) := by
  obtain ⟨cs, hc, hx⟩ := h
  rw [cell_of_row _ _ _ _ _ _ hc]
  exact hx i hi
theorem RR.Got.below (h : RR.Got g xs u) (hb : Below u.heap.size u u2) : RR.Got g xs u2 := by
  obtain ⟨cs, hc, hx⟩ := h
  exact ⟨cs, by rw [hb.block _ (Array.getElem?_eq_some_iff.1 hc).1]; exact hc, hx⟩
theorem RR.Got.far (h : RR.Got g xs u) {p : Addr} (hp : g ≠ p.block) (v : Value) : RR.Got g xs (u.setCell p v) := by
  obtain ⟨cs, hc, hx⟩ := h
  exact ⟨cs, by rw [heap_setCell_other u _ _ _ hp]; exact hc, hx⟩
theorem RR.Got.alloc (h : RR.Got g xs u) (o : Obj) : RR.Got g xs (u.alloc o) := by
  obtain ⟨cs, hc, hx⟩ := h
  exact ⟨cs, (heap_alloc_old _ _ (Array.getElem?_eq_some_iff.1 hc).1).trans hc, hx⟩
theorem RR.Got.drew (h : RR.Got g xs u) : RR.Got g xs u.drew := h
theorem RR.Got.grown {v : Value} {base : Nat} {ok : Nat → Prop} {ys : List S48} (h : RR.Got g xs u) (hg : u.grownBy u2 v.ownBlock) (hr : Kd.R k48 48 u base ok v ys) : RR.Got g xs u2 := by
  obtain ⟨cs, hc, hx⟩ := h
  exact ⟨cs, blk_grown hc hg (fun e => Kd.R_ne hr hc (by decide) e), hx⟩
end
theorem RR.Rw.drew {w u : World} {cs : Array Value} (h : RR.Rw w cs u) : RR.Rw w cs u.drew := ⟨h.res, h.c, below_drew1 h.bel⟩
theorem RR.Rw.grown {w u u2 : World} {cs : Array Value} {v : Value} {base : Nat} {ok : Nat → Prop} {ys : List S48} (h : RR.Rw w cs u) (hb : Below w.heap.size w u2) (hg : u.grownBy u2 v.ownBlock) (hr : Kd.R k48 48 u base ok v ys) : RR.Rw w cs u2 :=
  ⟨blk_grown h.res hg (fun e => Kd.R_ne hr h.res (by decide) e), blk_grown h.c hg (fun e => Kd.R_ne hr h.c (by decide) e), hb⟩
/-- a run of the numbers -/
def RR.span (l : List Int) (j : Nat) : S48 := ⟨rd l (1 + 3 * (j : Int)), rd l (2 + 3 * (j : Int)), rd l (3 + 3 * (j : Int))⟩
theorem RR.S_of {w u : World} {g2 k : Nat} {ps : List Int} {a b c d e f h V i : Value} (q : RR.Rw w #[a, b, c, d, e, f, h, V, i] u) (n : RR.Got g2 ps u) (hp : ps.length = 11) (hk : k < 3) :
    u.cell? ⟨w.heap.size + 1, 7, none⟩ = some V ∧ u.cell? ⟨g2, 1 + 3 * k, none⟩ = some (.int .i64 (RR.span ps k).f0) ∧ u.cell? ⟨g2, 2 + 3 * k, none⟩ = some (.int .i64 (RR.span ps k).f1) ∧ u.cell? ⟨g2, 3 + 3 * k, none⟩ = some (.int .i64 (RR.span ps k).f2) :=
  ⟨(blk_cell q.c 7).trans rfl, n.cell (1 + 3 * k) (by omega), n.cell (2 + 3 * k) (by omega), n.cell (3 + 3 * k) (by omega)⟩
theorem RR.len_next {ps : List Int} {k : Nat} : ((List.range k).map (RR.span ps) ++ [RR.span ps k]).length = k + 1 := by simp
theorem RR.len_k {ps : List Int} {k : Nat} : ((List.range k).map (RR.span ps)).length = k := by simp
theorem RR.len24 (ps : List Int) {k : Nat} (h : k < 3) : (((List.range k).map (RR.span ps)).length + 1) * 24 ≤ 140737488355328 := by
  rw [List.length_map, List.length_range]
  omega
theorem RR.info48 : (Try.prog.info? 48).map (fun i => (i.zero, i.size, i.bytes)) = some (some (.agg #[.int .i64 0, .int .i64 0, .int .i64 0]), 3, 24) := by kernel_rfl
theorem RR.lt4 {xs : List Int} {n i : Nat} (h : xs.length = n) (hi : i < n) : i < xs.length := by rw [h]; exact hi
theorem RR.le4n {c : Nat} (h : 5 + 1 ≤ c) : 4 ≤ c := by omega
theorem RR.le4 {c : Nat} (h : 5 + 1 ≤ c) : ((4 : Int) ≤ (c : Int)) = True := eq_true (by omega)
theorem RR.ne_of2 {w u : World} {g : Nat} {p1 p2 p3 p4 : Addr} {v1 v2 v3 v4 : Value} {o : Obj} (hs : w.heap.size + 2 ≤ u.heap.size) (h : (((((u.setCell p1 v1).setCell p2 v2).setCell p3 v3).setCell p4 v4).alloc o).heap.size ≤ g) : ¬ g = w.heap.size + 1 ∧ ¬ w.heap.size + 1 = g := by
  rw [RR.alloc_size, RR.put_size, RR.put_size, RR.put_size, RR.put_size] at h
  omega
theorem RR.ne_of {w : World} {g : Nat} {o1 o2 o3 : Obj} (h : (((w.alloc o1).alloc o2).alloc o3).heap.size ≤ g) : ¬ g = w.heap.size + 1 ∧ ¬ w.heap.size + 1 = g := by
  rw [RR.alloc_size, RR.alloc_size, RR.alloc_size] at h
  omega
theorem RR.tk {w w3 W0 : World} {ps : List Int} {g2 cap2 : Nat} {cs : Array Value} (h : Kd.R (Kd.int .i64) 3 w3 W0.heap.size (fun _ => True) (.slice (some ⟨g2, 0, none⟩) (5 + 1) cap2) ps) (hp : ps.length = 6) (hc : w3.heap[w.heap.size + 1]? = some (.cells cs 25 (0, 0))) (v4 v5 v6 : Value) :
    Kd.R (Kd.int .i64) 3 (((w3.setCell ⟨w.heap.size + 1, 4, none⟩ v4).setCell ⟨w.heap.size + 1, 5, none⟩ v5).setCell ⟨w.heap.size + 1, 6, none⟩ v6) W0.heap.size (fun k => True ∧ k ≠ w.heap.size + 1) (.slice (some ⟨g2, 0, none⟩) 4 cap2) (ps.take 4) :=
  Kd.R_take (Kd.R_far (Kd.R_far (Kd.R_far (Kd.R_types h hc (by decide)) (fun _ hk => hk.2) v4) (fun _ hk => hk.2) v5) (fun _ hk => hk.2) v6) (by omega)
theorem RR.tkC {W : World} {base g2 cap2 : Nat} {ok : Nat → Prop} {ps : List Int} (h : Kd.R (Kd.int .i64) 3 W base ok (.slice (some ⟨g2, 0, none⟩) 4 cap2) (ps.take 4)) (hp : ps.length = 6) : Kd.C (Kd.int .i64) W (some ⟨g2, 0, none⟩) 4 (ps.take 4) := by
  have := (Kd.R_reads' h).2.2
  rwa [show (ps.take 4).length = 4 by rw [List.length_take]; omega] at this
theorem RR.res {α : Type} {d : Kd α} {e : Nat} {w w4 : World} {base : Nat} {ok : Nat → Prop} {v : Value} {xs : List α} {cs : Array Value} (h : Kd.R d e w4 base ok v xs) (hr : RR.Rw w cs w4) (ht : ∀ q, q ∈ e :: d.E → q ≠ 25) (hb : w.heap.size ≤ base) (zs : Array Value) : Kd.R d e (w4.setRow w.heap.size zs) w.heap.size (fun _ => True) v xs :=
  Kd.R_mono (Kd.R_lower (Kd.R_step (Kd.R_types h hr.res ht) (fun k hk _ => setRow_other _ _ _ _ hk.2)) hb) (fun _ _ => trivial)
theorem RR.base {w u : World} {cs : Array Value} {p1 p2 p3 p4 : Addr} {v1 v2 v3 v4 : Value} {o : Obj} (h : RR.Rw w cs u) {g : Nat} (_ : (((((u.setCell p1 v1).setCell p2 v2).setCell p3 v3).setCell p4 v4).alloc o).heap.size ≤ g) : w.heap.size ≤ (((((u.setCell p1 v1).setCell p2 v2).setCell p3 v3).setCell p4 v4).alloc o).heap.size := by
  rw [RR.alloc_size, RR.put_size, RR.put_size, RR.put_size, RR.put_size]
  exact Nat.le_trans h.bel.size (Nat.le_succ _)
set_option maxHeartbeats 4000000 in
set_option maxRecDepth 100000 in
theorem RR.one (a0 : ByteArray) (h32 : a0.size = 32) (hs ps : List Int) (hh : hs.length = 4) (hp : ps.length = 6) (h1 : rd hs 0 = 1) (t : ByteArray) (e2 : Int)
    (CA : ∀ (A : Option Addr) (c : Nat) (W : World), Kd.C (Kd.int .i64) W A 4 [1, 1, 2, 4] → 4 ≤ c → Aside0 (Calls Try.prog 37 #[.slice A 4 c, .string a0] W fun e w' => ∃ v0 : Value, e = .returned (.tuple #[v0, .int .i64 0]) ∧ Kd.R (Kd.int .i64) 3 w' W.heap.size (fun _ => True) v0 hs ∧ Below W.heap.size W w'))
    (CB : ∀ (A : Option Addr) (c : Nat) (W : World), Kd.C (Kd.int .i64) W A 6 [2, 2, 2, 2, 2, 2] → 6 ≤ c → Aside0 (Calls Try.prog 37 #[.slice A 6 c, .string (a0.extract 8 a0.size)] W fun e w' => ∃ v0 : Value, e = .returned (.tuple #[v0, .int .i64 0]) ∧ Kd.R (Kd.int .i64) 3 w' W.heap.size (fun _ => True) v0 ps ∧ Below W.heap.size W w'))
    (CW : ∀ (A : Option Addr) (c : Nat) (W : World), Kd.C (Kd.int .i64) W A 4 (ps.take 4) → 4 ≤ c → Aside0 (Calls Try.prog 10 #[.agg #[.int .i64 1, .int .i64 (rd hs 1), .int .i64 (rd hs 2), .int .i64 (rd hs 3), .slice A 4 c, .int .i64 (rd ps 4), .int .i64 (rd ps 5), .slice none 0 0, .int .i64 0]] W fun e w' => e = .returned (.tuple #[.string t, .int .i64 e2]) ∧ Below W.heap.size W w'))
    (Pst : Ending → World → Prop) (w : World) (hg : e2 = 0 → t.toList = a0.toList → ∀ e w', (∃ v4_ v7_ : Value, e = .returned (.tuple #[.agg #[.int .i64 1, .int .i64 (rd hs 1), .int .i64 (rd hs 2), .int .i64 (rd hs 3), v4_, .int .i64 (rd ps 4), .int .i64 (rd ps 5), v7_, .int .i64 0], .int .i64 0]) ∧ Kd.R (Kd.int .i64) 3 w' w.heap.size (fun _ => True) v4_ (ps.take 4) ∧ Kd.R k48 48 w' w.heap.size (fun _ => True) v7_ [] ∧ Below w.heap.size w w') → Pst e w') (hn : ¬ (e2 = 0 ∧ t.toList = a0.toList) → ∀ e w', (∃ v4_ v7_ : Value, e = .returned (.tuple #[.agg #[.int .i64 0, .int .i64 0, .int .i64 0, .int .i64 0, v4_, .int .i64 0, .int .i64 0, v7_, .int .i64 0], .int .i64 15]) ∧ Kd.R (Kd.int .i64) 3 w' w.heap.size (fun _ => True) v4_ [] ∧ Kd.R k48 48 w' w.heap.size (fun _ => True) v7_ [] ∧ Below w.heap.size w w') → Pst e w') : Calls Try.prog 14 #[.string a0] w Pst := by
  have z0 : ((a0.size : Int) == 32) = true := by rw [h32]; rfl
  have z1 : ((a0.size : Int) != 32) = false := by rw [h32]; rfl
  have z8 : ((8 : Int) ≤ (a0.size : Int)) = True := eq_true (by omega)
  clear h32
  have n0 : (rd hs 0 != 0) = true := by rw [h1]; rfl
  have n1 : (rd hs 0 == 1) = true := by rw [h1]; rfl
  have n2 : (rd hs 0 == 2) = false := by rw [h1]; rfl
  have hu25 := Try.underlying25
  have HG := Aside0.mk hg
  have HNB := Aside0.mk hn
  clear hg hn
  by_cases he : e2 = 0
  · subst he
    have e0 : ((0 : Int) != 0) = false := rfl
    by_cases ht : t.toList = a0.toList
    · have t0 : (t.toList == a0.toList) = true := beq_iff_eq.mpr ht
      have t1 : (t.toList != a0.toList) = false := bne_eq_false_iff_eq.mpr ht
      have HT := Aside0.mk ht
      clear ht
      go_enter Try.func14, Try.ntmps14
      go_wp2_with (first
        | (go_at_call 37; (with_reducible refine (CA _ _ _ ?cc (Nat.le_refl _)).out.mono ?_); (case cc => exact RR.lit_C _ _ (by rw [RR.alloc_size, RR.alloc_size]) [1, 1, 2, 4] (by decide)); rintro e w2 ⟨v0, rfl, hR, hb⟩; obtain ⟨g, cap, rfl, hcap, hge, RH⟩ := RR.got hR hh; have RB := ((RR.Rw.first w).alloc _).below hb; have KH := Aside0.mk RH; have KB := Aside0.mk RB; have y0 : w2.cell? ⟨g, 0, none⟩ = some (.int .i64 (rd hs 0)) := RH.cell 0 (RR.lt4 hh (by decide)); have y1 : w2.cell? ⟨g, 1, none⟩ = some (.int .i64 (rd hs 1)) := RH.cell 1 (RR.lt4 hh (by decide)); have y2 : w2.cell? ⟨g, 2, none⟩ = some (.int .i64 (rd hs 2)) := RH.cell 2 (RR.lt4 hh (by decide)); have y3 : w2.cell? ⟨g, 3, none⟩ = some (.int .i64 (rd hs 3)) := RH.cell 3 (RR.lt4 hh (by decide)); obtain ⟨x0, x1, x2, x3, x4, x5, x6, x7, x8⟩ := cells9 RB.c; obtain ⟨f0, f1, f2, f3, f4, f5, f6, f7, f8⟩ := frozen9 RB.c; have gn := RR.ne_of hge; clear RH RB hb hR hge)
        | (go_at_call 37; (with_reducible refine (CB _ _ _ ?cc (Nat.le_refl _)).out.mono ?_); (case cc => exact RR.lit_C _ _ (by rw [RR.put_size, RR.put_size, RR.put_size, RR.put_size]) [2, 2, 2, 2, 2, 2] (by decide)); rintro e w3 ⟨v1, rfl, hR, hb⟩; have HR := Aside0.mk hR; obtain ⟨g2, cap2, rfl, hcap2, hge2, RH⟩ := RR.got hR hp; have RB : RR.Rw w #[.int .i64 1, .int .i64 (rd hs 1), .int .i64 (rd hs 2), .int .i64 (rd hs 3), .slice none 0 0, .int .i64 0, .int .i64 0, .slice none 0 0, .int .i64 0] w3 := (((((KB.out.put 0 _).put 1 _).put 2 _).put 3 _).alloc _).below hb; have KB2 := Aside0.mk RB; have y0b : w3.cell? ⟨g, 0, none⟩ = some (.int .i64 1) := ((((((KH.out.far gn.1 _).far gn.1 _).far gn.1 _).far gn.1 _).alloc _).below hb).cell 0 (RR.lt4 hh (by decide)) |>.trans (by rw [show rd hs ((0 : Nat) : Int) = 1 from h1]); have z4 : w3.cell? ⟨g2, 4, none⟩ = some (.int .i64 (rd ps 4)) := RH.cell 4 (RR.lt4 hp (by decide)); have z5 : w3.cell? ⟨g2, 5, none⟩ = some (.int .i64 (rd ps 5)) := RH.cell 5 (RR.lt4 hp (by decide)); obtain ⟨X0, X1, X2, X3, X4, X5, X6, X7, X8⟩ := cells9 RB.c; obtain ⟨F0, F1, F2, F3, F4, F5, F6, F7, F8⟩ := frozen9 RB.c; have gn2 := RR.ne_of2 KB.out.size hge2; have q4 := RR.le4 hcap2; have hcap4 := RR.le4n hcap2; have HB0 := Aside0.mk (RR.base KB.out hge2); clear RH RB hb hR hge2)
        | (go_at_call 10; (with_reducible refine (CW _ _ _ ?cc hcap4).out.mono ?_); (case cc => exact RR.tkC (RR.tk HR.out hp KB2.out.c _ _ _) hp); rintro e w4 ⟨rfl, hb⟩; have RB : RR.Rw w #[.int .i64 1, .int .i64 (rd hs 1), .int .i64 (rd hs 2), .int .i64 (rd hs 3), .slice (some ⟨g2, 0, none⟩) 4 cap2, .int .i64 (rd ps 4), .int .i64 (rd ps 5), .slice none 0 0, .int .i64 0] w4 := (((KB2.out.put 4 _).put 5 _).put 6 _).below hb; have KB3 := Aside0.mk RB; have HR4 := Aside0.mk (Kd.R_below (RR.tk HR.out hp KB2.out.c _ _ _) hb); obtain ⟨W0, W1, W2, W3, W4, W5, W6, W7, W8⟩ := cells9 RB.c; clear RB hb)
        | (refine wpList_store_row rfl 25 _ _ rfl w.heap.size #[.int .i64 1, .int .i64 (rd hs 1), .int .i64 (rd hs 2), .int .i64 (rd hs 3), .slice (some ⟨g2, 0, none⟩) 4 cap2, .int .i64 (rd ps 4), .int .i64 (rd ps 5), .slice none 0 0, .int .i64 0] rfl rfl 25 #[.int .i64 0, .int .i64 0, .int .i64 0, .int .i64 0, .slice none 0 0, .int .i64 0, .int .i64 0, .slice none 0 0, .int .i64 0] KB3.out.res RR.info25 rfl (by kernel_rfl) ?_))
      refine bodyPost_ret (results_ct rfl _ _ w.heap.size 25 #[.int .i64 1, .int .i64 (rd hs 1), .int .i64 (rd hs 2), .int .i64 (rd hs 3), .slice (some ⟨g2, 0, none⟩) 4 cap2, .int .i64 (rd ps 4), .int .i64 (rd ps 5), .slice none 0 0, .int .i64 0] (0, 0) _ rfl (setRow_heap _ _ _ _ _ _ KB3.out.res) Try.underlying25 rfl RR.info25) rfl ?_
      exact HG.out (by first | exact rfl | exact trivial) HT.out _ _ ⟨_, _, rfl, RR.res HR4.out KB3.out (by decide) HB0.out _, Kd.R_nil _ _ _ _ _, below_setRow KB3.out.bel (Nat.le_refl _) _⟩
    · have t0 : (t.toList == a0.toList) = false := beq_eq_false_iff_ne.mpr ht
      have t1 : (t.toList != a0.toList) = true := bne_iff_ne.mpr ht
      have HT := Aside0.mk ht
      clear ht
      go_enter Try.func14, Try.ntmps14
      go_wp2_with (first
        | (go_at_call 37; (with_reducible refine (CA _ _ _ ?cc (Nat.le_refl _)).out.mono ?_); (case cc => exact RR.lit_C _ _ (by rw [RR.alloc_size, RR.alloc_size]) [1, 1, 2, 4] (by decide)); rintro e w2 ⟨v0, rfl, hR, hb⟩; obtain ⟨g, cap, rfl, hcap, hge, RH⟩ := RR.got hR hh; have RB := ((RR.Rw.first w).alloc _).below hb; have KH := Aside0.mk RH; have KB := Aside0.mk RB; have y0 : w2.cell? ⟨g, 0, none⟩ = some (.int .i64 (rd hs 0)) := RH.cell 0 (RR.lt4 hh (by decide)); have y1 : w2.cell? ⟨g, 1, none⟩ = some (.int .i64 (rd hs 1)) := RH.cell 1 (RR.lt4 hh (by decide)); have y2 : w2.cell? ⟨g, 2, none⟩ = some (.int .i64 (rd hs 2)) := RH.cell 2 (RR.lt4 hh (by decide)); have y3 : w2.cell? ⟨g, 3, none⟩ = some (.int .i64 (rd hs 3)) := RH.cell 3 (RR.lt4 hh (by decide)); obtain ⟨x0, x1, x2, x3, x4, x5, x6, x7, x8⟩ := cells9 RB.c; obtain ⟨f0, f1, f2, f3, f4, f5, f6, f7, f8⟩ := frozen9 RB.c; have gn := RR.ne_of hge; clear RH RB hb hR hge)
        | (go_at_call 37; (with_reducible refine (CB _ _ _ ?cc (Nat.le_refl _)).out.mono ?_); (case cc => exact RR.lit_C _ _ (by rw [RR.put_size, RR.put_size, RR.put_size, RR.put_size]) [2, 2, 2, 2, 2, 2] (by decide)); rintro e w3 ⟨v1, rfl, hR, hb⟩; have HR := Aside0.mk hR; obtain ⟨g2, cap2, rfl, hcap2, hge2, RH⟩ := RR.got hR hp; have RB : RR.Rw w #[.int .i64 1, .int .i64 (rd hs 1), .int .i64 (rd hs 2), .int .i64 (rd hs 3), .slice none 0 0, .int .i64 0, .int .i64 0, .slice none 0 0, .int .i64 0] w3 := (((((KB.out.put 0 _).put 1 _).put 2 _).put 3 _).alloc _).below hb; have KB2 := Aside0.mk RB; have y0b : w3.cell? ⟨g, 0, none⟩ = some (.int .i64 1) := ((((((KH.out.far gn.1 _).far gn.1 _).far gn.1 _).far gn.1 _).alloc _).below hb).cell 0 (RR.lt4 hh (by decide)) |>.trans (by rw [show rd hs ((0 : Nat) : Int) = 1 from h1]); have z4 : w3.cell? ⟨g2, 4, none⟩ = some (.int .i64 (rd ps 4)) := RH.cell 4 (RR.lt4 hp (by decide)); have z5 : w3.cell? ⟨g2, 5, none⟩ = some (.int .i64 (rd ps 5)) := RH.cell 5 (RR.lt4 hp (by decide)); obtain ⟨X0, X1, X2, X3, X4, X5, X6, X7, X8⟩ := cells9 RB.c; obtain ⟨F0, F1, F2, F3, F4, F5, F6, F7, F8⟩ := frozen9 RB.c; have gn2 := RR.ne_of2 KB.out.size hge2; have q4 := RR.le4 hcap2; have hcap4 := RR.le4n hcap2; have HB0 := Aside0.mk (RR.base KB.out hge2); clear RH RB hb hR hge2)
        | (go_at_call 10; (with_reducible refine (CW _ _ _ ?cc hcap4).out.mono ?_); (case cc => exact RR.tkC (RR.tk HR.out hp KB2.out.c _ _ _) hp); rintro e w4 ⟨rfl, hb⟩; have RB : RR.Rw w #[.int .i64 1, .int .i64 (rd hs 1), .int .i64 (rd hs 2), .int .i64 (rd hs 3), .slice (some ⟨g2, 0, none⟩) 4 cap2, .int .i64 (rd ps 4), .int .i64 (rd ps 5), .slice none 0 0, .int .i64 0] w4 := (((KB2.out.put 4 _).put 5 _).put 6 _).below hb; have KB3 := Aside0.mk RB; have HR4 := Aside0.mk (Kd.R_below (RR.tk HR.out hp KB2.out.c _ _ _) hb); obtain ⟨W0, W1, W2, W3, W4, W5, W6, W7, W8⟩ := cells9 RB.c; clear RB hb)
        | (refine wpList_store_row rfl 25 _ _ rfl w.heap.size #[.int .i64 0, .int .i64 0, .int .i64 0, .int .i64 0, .slice none 0 0, .int .i64 0, .int .i64 0, .slice none 0 0, .int .i64 0] rfl rfl 25 #[.int .i64 0, .int .i64 0, .int .i64 0, .int .i64 0, .slice none 0 0, .int .i64 0, .int .i64 0, .slice none 0 0, .int .i64 0] KB3.out.res RR.info25 rfl (by kernel_rfl) ?_))
      refine bodyPost_ret (results_ct rfl _ _ w.heap.size 25 #[.int .i64 0, .int .i64 0, .int .i64 0, .int .i64 0, .slice none 0 0, .int .i64 0, .int .i64 0, .slice none 0 0, .int .i64 0] (0, 0) _ rfl (setRow_heap _ _ _ _ _ _ KB3.out.res) Try.underlying25 rfl RR.info25) rfl ?_
      exact HNB.out (fun h => HT.out h.2) _ _ ⟨_, _, rfl, Kd.R_nil _ _ _ _ _, Kd.R_nil _ _ _ _ _, below_setRow KB3.out.bel (Nat.le_refl _) _⟩
  · have e0 : (e2 == 0) = false := beq_eq_false_iff_ne.mpr he
    have e1 : (e2 != 0) = true := bne_iff_ne.mpr he
    have HT := Aside0.mk he
    clear he
    go_enter Try.func14, Try.ntmps14
    go_wp2_with (first
      | (go_at_call 37; (with_reducible refine (CA _ _ _ ?cc (Nat.le_refl _)).out.mono ?_); (case cc => exact RR.lit_C _ _ (by rw [RR.alloc_size, RR.alloc_size]) [1, 1, 2, 4] (by decide)); rintro e w2 ⟨v0, rfl, hR, hb⟩; obtain ⟨g, cap, rfl, hcap, hge, RH⟩ := RR.got hR hh; have RB := ((RR.Rw.first w).alloc _).below hb; have KH := Aside0.mk RH; have KB := Aside0.mk RB; have y0 : w2.cell? ⟨g, 0, none⟩ = some (.int .i64 (rd hs 0)) := RH.cell 0 (RR.lt4 hh (by decide)); have y1 : w2.cell? ⟨g, 1, none⟩ = some (.int .i64 (rd hs 1)) := RH.cell 1 (RR.lt4 hh (by decide)); have y2 : w2.cell? ⟨g, 2, none⟩ = some (.int .i64 (rd hs 2)) := RH.cell 2 (RR.lt4 hh (by decide)); have y3 : w2.cell? ⟨g, 3, none⟩ = some (.int .i64 (rd hs 3)) := RH.cell 3 (RR.lt4 hh (by decide)); obtain ⟨x0, x1, x2, x3, x4, x5, x6, x7, x8⟩ := cells9 RB.c; obtain ⟨f0, f1, f2, f3, f4, f5, f6, f7, f8⟩ := frozen9 RB.c; have gn := RR.ne_of hge; clear RH RB hb hR hge)
      | (go_at_call 37; (with_reducible refine (CB _ _ _ ?cc (Nat.le_refl _)).out.mono ?_); (case cc => exact RR.lit_C _ _ (by rw [RR.put_size, RR.put_size, RR.put_size, RR.put_size]) [2, 2, 2, 2, 2, 2] (by decide)); rintro e w3 ⟨v1, rfl, hR, hb⟩; have HR := Aside0.mk hR; obtain ⟨g2, cap2, rfl, hcap2, hge2, RH⟩ := RR.got hR hp; have RB : RR.Rw w #[.int .i64 1, .int .i64 (rd hs 1), .int .i64 (rd hs 2), .int .i64 (rd hs 3), .slice none 0 0, .int .i64 0, .int .i64 0, .slice none 0 0, .int .i64 0] w3 := (((((KB.out.put 0 _).put 1 _).put 2 _).put 3 _).alloc _).below hb; have KB2 := Aside0.mk RB; have y0b : w3.cell? ⟨g, 0, none⟩ = some (.int .i64 1) := ((((((KH.out.far gn.1 _).far gn.1 _).far gn.1 _).far gn.1 _).alloc _).below hb).cell 0 (RR.lt4 hh (by decide)) |>.trans (by rw [show rd hs ((0 : Nat) : Int) = 1 from h1]); have z4 : w3.cell? ⟨g2, 4, none⟩ = some (.int .i64 (rd ps 4)) := RH.cell 4 (RR.lt4 hp (by decide)); have z5 : w3.cell? ⟨g2, 5, none⟩ = some (.int .i64 (rd ps 5)) := RH.cell 5 (RR.lt4 hp (by decide)); obtain ⟨X0, X1, X2, X3, X4, X5, X6, X7, X8⟩ := cells9 RB.c; obtain ⟨F0, F1, F2, F3, F4, F5, F6, F7, F8⟩ := frozen9 RB.c; have gn2 := RR.ne_of2 KB.out.size hge2; have q4 := RR.le4 hcap2; have hcap4 := RR.le4n hcap2; have HB0 := Aside0.mk (RR.base KB.out hge2); clear RH RB hb hR hge2)
      | (go_at_call 10; (with_reducible refine (CW _ _ _ ?cc hcap4).out.mono ?_); (case cc => exact RR.tkC (RR.tk HR.out hp KB2.out.c _ _ _) hp); rintro e w4 ⟨rfl, hb⟩; have RB : RR.Rw w #[.int .i64 1, .int .i64 (rd hs 1), .int .i64 (rd hs 2), .int .i64 (rd hs 3), .slice (some ⟨g2, 0, none⟩) 4 cap2, .int .i64 (rd ps 4), .int .i64 (rd ps 5), .slice none 0 0, .int .i64 0] w4 := (((KB2.out.put 4 _).put 5 _).put 6 _).below hb; have KB3 := Aside0.mk RB; have HR4 := Aside0.mk (Kd.R_below (RR.tk HR.out hp KB2.out.c _ _ _) hb); obtain ⟨W0, W1, W2, W3, W4, W5, W6, W7, W8⟩ := cells9 RB.c; clear RB hb)
      | (refine wpList_store_row rfl 25 _ _ rfl w.heap.size #[.int .i64 0, .int .i64 0, .int .i64 0, .int .i64 0, .slice none 0 0, .int .i64 0, .int .i64 0, .slice none 0 0, .int .i64 0] rfl rfl 25 #[.int .i64 0, .int .i64 0, .int .i64 0, .int .i64 0, .slice none 0 0, .int .i64 0, .int .i64 0, .slice none 0 0, .int .i64 0] KB3.out.res RR.info25 rfl (by kernel_rfl) ?_))
    refine bodyPost_ret (results_ct rfl _ _ w.heap.size 25 #[.int .i64 0, .int .i64 0, .int .i64 0, .int .i64 0, .slice none 0 0, .int .i64 0, .int .i64 0, .slice none 0 0, .int .i64 0] (0, 0) _ rfl (setRow_heap _ _ _ _ _ _ KB3.out.res) Try.underlying25 rfl RR.info25) rfl ?_
    exact HNB.out (fun h => HT.out h.1) _ _ ⟨_, _, rfl, Kd.R_nil _ _ _ _ _, Kd.R_nil _ _ _ _ _, below_setRow KB3.out.bel (Nat.le_refl _) _⟩
set_option maxHeartbeats 4000000 in
set_option maxRecDepth 100000 in
theorem RR.zero (a0 : ByteArray) (h32 : a0.size = 32) (hs : List Int) (hh : hs.length = 4) (h1 : rd hs 0 = 0) (t : ByteArray) (e2 : Int)
    (CA : ∀ (A : Option Addr) (c : Nat) (W : World), Kd.C (Kd.int .i64) W A 4 [1, 1, 2, 4] → 4 ≤ c → Aside0 (Calls Try.prog 37 #[.slice A 4 c, .string a0] W fun e w' => ∃ v0 : Value, e = .returned (.tuple #[v0, .int .i64 0]) ∧ Kd.R (Kd.int .i64) 3 w' W.heap.size (fun _ => True) v0 hs ∧ Below W.heap.size W w'))
    (CW : ∀ (W : World), Aside0 (Calls Try.prog 10 #[.agg #[.int .i64 0, .int .i64 0, .int .i64 0, .int .i64 0, .slice none 0 0, .int .i64 0, .int .i64 0, .slice none 0 0, .int .i64 0]] W fun e w' => e = .returned (.tuple #[.string t, .int .i64 e2]) ∧ Below W.heap.size W w'))
    (Pst : Ending → World → Prop) (w : World) (hg : e2 = 0 → t.toList = a0.toList → ∀ e w', (∃ v4_ v7_ : Value, e = .returned (.tuple #[.agg #[.int .i64 0, .int .i64 0, .int .i64 0, .int .i64 0, v4_, .int .i64 0, .int .i64 0, v7_, .int .i64 0], .int .i64 0]) ∧ Kd.R (Kd.int .i64) 3 w' w.heap.size (fun _ => True) v4_ [] ∧ Kd.R k48 48 w' w.heap.size (fun _ => True) v7_ [] ∧ Below w.heap.size w w') → Pst e w') (hn : ¬ (e2 = 0 ∧ t.toList = a0.toList) → ∀ e w', (∃ v4_ v7_ : Value, e = .returned (.tuple #[.agg #[.int .i64 0, .int .i64 0, .int .i64 0, .int .i64 0, v4_, .int .i64 0, .int .i64 0, v7_, .int .i64 0], .int .i64 15]) ∧ Kd.R (Kd.int .i64) 3 w' w.heap.size (fun _ => True) v4_ [] ∧ Kd.R k48 48 w' w.heap.size (fun _ => True) v7_ [] ∧ Below w.heap.size w w') → Pst e w') : Calls Try.prog 14 #[.string a0] w Pst := by
  have z0 : ((a0.size : Int) == 32) = true := by rw [h32]; rfl
  have z1 : ((a0.size : Int) != 32) = false := by rw [h32]; rfl
  have z8 : ((8 : Int) ≤ (a0.size : Int)) = True := eq_true (by omega)
  clear h32
  have n0 : (rd hs 0 != 0) = false := by rw [h1]; rfl
  have n1 : (rd hs 0 == 1) = false := by rw [h1]; rfl
  have n2 : (rd hs 0 == 2) = false := by rw [h1]; rfl
  have hu25 := Try.underlying25
  have HG := Aside0.mk hg
  have HNB := Aside0.mk hn
  clear hg hn
  by_cases he : e2 = 0
  · subst he
    have e0 : ((0 : Int) != 0) = false := rfl
    by_cases ht : t.toList = a0.toList
    · have t0 : (t.toList == a0.toList) = true := beq_iff_eq.mpr ht
      have t1 : (t.toList != a0.toList) = false := bne_eq_false_iff_eq.mpr ht
      have HT := Aside0.mk ht
      clear ht
      go_enter Try.func14, Try.ntmps14
      go_wp2_with (first
        | (go_at_call 37; (with_reducible refine (CA _ _ _ ?cc (Nat.le_refl _)).out.mono ?_); (case cc => exact RR.lit_C _ _ (by rw [RR.alloc_size, RR.alloc_size]) [1, 1, 2, 4] (by decide)); rintro e w2 ⟨v0, rfl, hR, hb⟩; obtain ⟨g, cap, rfl, hcap, hge, RH⟩ := RR.got hR hh; have RB := ((RR.Rw.first w).alloc _).below hb; have KH := Aside0.mk RH; have KB := Aside0.mk RB; have y0 : w2.cell? ⟨g, 0, none⟩ = some (.int .i64 (rd hs 0)) := RH.cell 0 (RR.lt4 hh (by decide)); have y1 : w2.cell? ⟨g, 1, none⟩ = some (.int .i64 (rd hs 1)) := RH.cell 1 (RR.lt4 hh (by decide)); have y2 : w2.cell? ⟨g, 2, none⟩ = some (.int .i64 (rd hs 2)) := RH.cell 2 (RR.lt4 hh (by decide)); have y3 : w2.cell? ⟨g, 3, none⟩ = some (.int .i64 (rd hs 3)) := RH.cell 3 (RR.lt4 hh (by decide)); obtain ⟨x0, x1, x2, x3, x4, x5, x6, x7, x8⟩ := cells9 RB.c; obtain ⟨f0, f1, f2, f3, f4, f5, f6, f7, f8⟩ := frozen9 RB.c; have gn := RR.ne_of hge; clear RH RB hb hR hge)
        | (go_at_call 10; (with_reducible refine (CW _).out.mono ?_); rintro e w4 ⟨rfl, hb⟩; have RB := KB.out.below hb; have KB3 := Aside0.mk RB; obtain ⟨W0, W1, W2, W3, W4, W5, W6, W7, W8⟩ := cells9 RB.c; clear RB hb)
        | (refine wpList_store_row rfl 25 _ _ rfl w.heap.size #[.int .i64 0, .int .i64 0, .int .i64 0, .int .i64 0, .slice none 0 0, .int .i64 0, .int .i64 0, .slice none 0 0, .int .i64 0] rfl rfl 25 #[.int .i64 0, .int .i64 0, .int .i64 0, .int .i64 0, .slice none 0 0, .int .i64 0, .int .i64 0, .slice none 0 0, .int .i64 0] KB3.out.res RR.info25 rfl (by kernel_rfl) ?_))
      refine bodyPost_ret (results_ct rfl _ _ w.heap.size 25 #[.int .i64 0, .int .i64 0, .int .i64 0, .int .i64 0, .slice none 0 0, .int .i64 0, .int .i64 0, .slice none 0 0, .int .i64 0] (0, 0) _ rfl (setRow_heap _ _ _ _ _ _ KB3.out.res) Try.underlying25 rfl RR.info25) rfl ?_
      exact HG.out (by first | exact rfl | exact trivial) HT.out _ _ ⟨_, _, rfl, Kd.R_nil _ _ _ _ _, Kd.R_nil _ _ _ _ _, below_setRow KB3.out.bel (Nat.le_refl _) _⟩
    · have t0 : (t.toList == a0.toList) = false := beq_eq_false_iff_ne.mpr ht
      have t1 : (t.toList != a0.toList) = true := bne_iff_ne.mpr ht
      have HT := Aside0.mk ht
      clear ht
      go_enter Try.func14, Try.ntmps14
      go_wp2_with (first
        | (go_at_call 37; (with_reducible refine (CA _ _ _ ?cc (Nat.le_refl _)).out.mono ?_); (case cc => exact RR.lit_C _ _ (by rw [RR.alloc_size, RR.alloc_size]) [1, 1, 2, 4] (by decide)); rintro e w2 ⟨v0, rfl, hR, hb⟩; obtain ⟨g, cap, rfl, hcap, hge, RH⟩ := RR.got hR hh; have RB := ((RR.Rw.first w).alloc _).below hb; have KH := Aside0.mk RH; have KB := Aside0.mk RB; have y0 : w2.cell? ⟨g, 0, none⟩ = some (.int .i64 (rd hs 0)) := RH.cell 0 (RR.lt4 hh (by decide)); have y1 : w2.cell? ⟨g, 1, none⟩ = some (.int .i64 (rd hs 1)) := RH.cell 1 (RR.lt4 hh (by decide)); have y2 : w2.cell? ⟨g, 2, none⟩ = some (.int .i64 (rd hs 2)) := RH.cell 2 (RR.lt4 hh (by decide)); have y3 : w2.cell? ⟨g, 3, none⟩ = some (.int .i64 (rd hs 3)) := RH.cell 3 (RR.lt4 hh (by decide)); obtain ⟨x0, x1, x2, x3, x4, x5, x6, x7, x8⟩ := cells9 RB.c; obtain ⟨f0, f1, f2, f3, f4, f5, f6, f7, f8⟩ := frozen9 RB.c; have gn := RR.ne_of hge; clear RH RB hb hR hge)
        | (go_at_call 10; (with_reducible refine (CW _).out.mono ?_); rintro e w4 ⟨rfl, hb⟩; have RB := KB.out.below hb; have KB3 := Aside0.mk RB; obtain ⟨W0, W1, W2, W3, W4, W5, W6, W7, W8⟩ := cells9 RB.c; clear RB hb)
        | (refine wpList_store_row rfl 25 _ _ rfl w.heap.size #[.int .i64 0, .int .i64 0, .int .i64 0, .int .i64 0, .slice none 0 0, .int .i64 0, .int .i64 0, .slice none 0 0, .int .i64 0] rfl rfl 25 #[.int .i64 0, .int .i64 0, .int .i64 0, .int .i64 0, .slice none 0 0, .int .i64 0, .int .i64 0, .slice none 0 0, .int .i64 0] KB3.out.res RR.info25 rfl (by kernel_rfl) ?_))
      refine bodyPost_ret (results_ct rfl _ _ w.heap.size 25 #[.int .i64 0, .int .i64 0, .int .i64 0, .int .i64 0, .slice none 0 0, .int .i64 0, .int .i64 0, .slice none 0 0, .int .i64 0] (0, 0) _ rfl (setRow_heap _ _ _ _ _ _ KB3.out.res) Try.underlying25 rfl RR.info25) rfl ?_
      exact HNB.out (fun h => HT.out h.2) _ _ ⟨_, _, rfl, Kd.R_nil _ _ _ _ _, Kd.R_nil _ _ _ _ _, below_setRow KB3.out.bel (Nat.le_refl _) _⟩
  · have e0 : (e2 == 0) = false := beq_eq_false_iff_ne.mpr he
    have e1 : (e2 != 0) = true := bne_iff_ne.mpr he
    have HT := Aside0.mk he
    clear he
    go_enter Try.func14, Try.ntmps14
    go_wp2_with (first
      | (go_at_call 37; (with_reducible refine (CA _ _ _ ?cc (Nat.le_refl _)).out.mono ?_); (case cc => exact RR.lit_C _ _ (by rw [RR.alloc_size, RR.alloc_size]) [1, 1, 2, 4] (by decide)); rintro e w2 ⟨v0, rfl, hR, hb⟩; obtain ⟨g, cap, rfl, hcap, hge, RH⟩ := RR.got hR hh; have RB := ((RR.Rw.first w).alloc _).below hb; have KH := Aside0.mk RH; have KB := Aside0.mk RB; have y0 : w2.cell? ⟨g, 0, none⟩ = some (.int .i64 (rd hs 0)) := RH.cell 0 (RR.lt4 hh (by decide)); have y1 : w2.cell? ⟨g, 1, none⟩ = some (.int .i64 (rd hs 1)) := RH.cell 1 (RR.lt4 hh (by decide)); have y2 : w2.cell? ⟨g, 2, none⟩ = some (.int .i64 (rd hs 2)) := RH.cell 2 (RR.lt4 hh (by decide)); have y3 : w2.cell? ⟨g, 3, none⟩ = some (.int .i64 (rd hs 3)) := RH.cell 3 (RR.lt4 hh (by decide)); obtain ⟨x0, x1, x2, x3, x4, x5, x6, x7, x8⟩ := cells9 RB.c; obtain ⟨f0, f1, f2, f3, f4, f5, f6, f7, f8⟩ := frozen9 RB.c; have gn := RR.ne_of hge; clear RH RB hb hR hge)
      | (go_at_call 10; (with_reducible refine (CW _).out.mono ?_); rintro e w4 ⟨rfl, hb⟩; have RB := KB.out.below hb; have KB3 := Aside0.mk RB; obtain ⟨W0, W1, W2, W3, W4, W5, W6, W7, W8⟩ := cells9 RB.c; clear RB hb)
      | (refine wpList_store_row rfl 25 _ _ rfl w.heap.size #[.int .i64 0, .int .i64 0, .int .i64 0, .int .i64 0, .slice none 0 0, .int .i64 0, .int .i64 0, .slice none 0 0, .int .i64 0] rfl rfl 25 #[.int .i64 0, .int .i64 0, .int .i64 0, .int .i64 0, .slice none 0 0, .int .i64 0, .int .i64 0, .slice none 0 0, .int .i64 0] KB3.out.res RR.info25 rfl (by kernel_rfl) ?_))
    refine bodyPost_ret (results_ct rfl _ _ w.heap.size 25 #[.int .i64 0, .int .i64 0, .int .i64 0, .int .i64 0, .slice none 0 0, .int .i64 0, .int .i64 0, .slice none 0 0, .int .i64 0] (0, 0) _ rfl (setRow_heap _ _ _ _ _ _ KB3.out.res) Try.underlying25 rfl RR.info25) rfl ?_
    exact HNB.out (fun h => HT.out h.1) _ _ ⟨_, _, rfl, Kd.R_nil _ _ _ _ _, Kd.R_nil _ _ _ _ _, below_setRow KB3.out.bel (Nat.le_refl _) _⟩
set_option maxHeartbeats 4000000 in
set_option maxRecDepth 100000 in
theorem RR.other_bad (a0 : ByteArray) (h32 : a0.size = 32) (hs : List Int) (hh : hs.length = 4) (h0 : ¬ rd hs 0 = 0) (h1 : ¬ rd hs 0 = 1) (h2 : ¬ rd hs 0 = 2) (t : ByteArray) (e2 : Int)
    (CA : ∀ (A : Option Addr) (c : Nat) (W : World), Kd.C (Kd.int .i64) W A 4 [1, 1, 2, 4] → 4 ≤ c → Aside0 (Calls Try.prog 37 #[.slice A 4 c, .string a0] W fun e w' => ∃ v0 : Value, e = .returned (.tuple #[v0, .int .i64 0]) ∧ Kd.R (Kd.int .i64) 3 w' W.heap.size (fun _ => True) v0 hs ∧ Below W.heap.size W w'))
    (CW : ∀ (W : World), Aside0 (Calls Try.prog 10 #[.agg #[.int .i64 (rd hs 0), .int .i64 (rd hs 1), .int .i64 (rd hs 2), .int .i64 (rd hs 3), .slice none 0 0, .int .i64 0, .int .i64 0, .slice none 0 0, .int .i64 0]] W fun e w' => e = .returned (.tuple #[.string t, .int .i64 e2]) ∧ Below W.heap.size W w'))
    (hn : ¬ (e2 = 0 ∧ t.toList = a0.toList)) (w : World) : Calls Try.prog 14 #[.string a0] w fun e w' => ∃ v4_ v7_ : Value, e = .returned (.tuple #[.agg #[.int .i64 0, .int .i64 0, .int .i64 0, .int .i64 0, v4_, .int .i64 0, .int .i64 0, v7_, .int .i64 0], .int .i64 15]) ∧ Kd.R (Kd.int .i64) 3 w' w.heap.size (fun _ => True) v4_ [] ∧ Kd.R k48 48 w' w.heap.size (fun _ => True) v7_ [] ∧ Below w.heap.size w w' := by
  have z0 : ((a0.size : Int) == 32) = true := by rw [h32]; rfl
  have z1 : ((a0.size : Int) != 32) = false := by rw [h32]; rfl
  have z8 : ((8 : Int) ≤ (a0.size : Int)) = True := eq_true (by omega)
  clear h32
  have n0 : (rd hs 0 != 0) = true := bne_iff_ne.mpr h0
  have n1 : (rd hs 0 == 1) = false := beq_eq_false_iff_ne.mpr h1
  have n2 : (rd hs 0 == 2) = false := beq_eq_false_iff_ne.mpr h2
  have hu25 := Try.underlying25
  by_cases he : e2 = 0
  · subst he
    have ht : ¬ t.toList = a0.toList := fun h => hn ⟨rfl, h⟩
    have e0 : ((0 : Int) != 0) = false := rfl
    have t0 : (t.toList == a0.toList) = false := beq_eq_false_iff_ne.mpr ht
    have t1 : (t.toList != a0.toList) = true := bne_iff_ne.mpr ht
    clear ht hn
    go_enter Try.func14, Try.ntmps14
    go_wp2_with (first
      | (go_at_call 37; (with_reducible refine (CA _ _ _ ?cc (Nat.le_refl _)).out.mono ?_); (case cc => exact RR.lit_C _ _ (by rw [RR.alloc_size, RR.alloc_size]) [1, 1, 2, 4] (by decide)); rintro e w2 ⟨v0, rfl, hR, hb⟩; obtain ⟨g, cap, rfl, hcap, hge, RH⟩ := RR.got hR hh; have RB := ((RR.Rw.first w).alloc _).below hb; have KH := Aside0.mk RH; have KB := Aside0.mk RB; have y0 : w2.cell? ⟨g, 0, none⟩ = some (.int .i64 (rd hs 0)) := RH.cell 0 (RR.lt4 hh (by decide)); have y1 : w2.cell? ⟨g, 1, none⟩ = some (.int .i64 (rd hs 1)) := RH.cell 1 (RR.lt4 hh (by decide)); have y2 : w2.cell? ⟨g, 2, none⟩ = some (.int .i64 (rd hs 2)) := RH.cell 2 (RR.lt4 hh (by decide)); have y3 : w2.cell? ⟨g, 3, none⟩ = some (.int .i64 (rd hs 3)) := RH.cell 3 (RR.lt4 hh (by decide)); obtain ⟨x0, x1, x2, x3, x4, x5, x6, x7, x8⟩ := cells9 RB.c; obtain ⟨f0, f1, f2, f3, f4, f5, f6, f7, f8⟩ := frozen9 RB.c; have gn := RR.ne_of hge; clear RH RB hb hR hge)
      | (go_at_call 10; (with_reducible refine (CW _).out.mono ?_); rintro e w4 ⟨rfl, hb⟩; have RB : RR.Rw w #[.int .i64 (rd hs 0), .int .i64 (rd hs 1), .int .i64 (rd hs 2), .int .i64 (rd hs 3), .slice none 0 0, .int .i64 0, .int .i64 0, .slice none 0 0, .int .i64 0] w4 := ((((KB.out.put 0 _).put 1 _).put 2 _).put 3 _).below hb; have KB3 := Aside0.mk RB; obtain ⟨W0, W1, W2, W3, W4, W5, W6, W7, W8⟩ := cells9 RB.c; clear RB hb)
      | (refine wpList_store_row rfl 25 _ _ rfl w.heap.size #[.int .i64 0, .int .i64 0, .int .i64 0, .int .i64 0, .slice none 0 0, .int .i64 0, .int .i64 0, .slice none 0 0, .int .i64 0] rfl rfl 25 #[.int .i64 0, .int .i64 0, .int .i64 0, .int .i64 0, .slice none 0 0, .int .i64 0, .int .i64 0, .slice none 0 0, .int .i64 0] KB3.out.res RR.info25 rfl (by kernel_rfl) ?_))
    refine bodyPost_ret (results_ct rfl _ _ w.heap.size 25 #[.int .i64 0, .int .i64 0, .int .i64 0, .int .i64 0, .slice none 0 0, .int .i64 0, .int .i64 0, .slice none 0 0, .int .i64 0] (0, 0) _ rfl (setRow_heap _ _ _ _ _ _ KB3.out.res) Try.underlying25 rfl RR.info25) rfl ?_
    exact ⟨_, _, rfl, Kd.R_nil _ _ _ _ _, Kd.R_nil _ _ _ _ _, below_setRow KB3.out.bel (Nat.le_refl _) _⟩
  · have e0 : (e2 == 0) = false := beq_eq_false_iff_ne.mpr he
    have e1 : (e2 != 0) = true := bne_iff_ne.mpr he
    clear he hn
    go_enter Try.func14, Try.ntmps14
    go_wp2_with (first
      | (go_at_call 37; (with_reducible refine (CA _ _ _ ?cc (Nat.le_refl _)).out.mono ?_); (case cc => exact RR.lit_C _ _ (by rw [RR.alloc_size, RR.alloc_size]) [1, 1, 2, 4] (by decide)); rintro e w2 ⟨v0, rfl, hR, hb⟩; obtain ⟨g, cap, rfl, hcap, hge, RH⟩ := RR.got hR hh; have RB := ((RR.Rw.first w).alloc _).below hb; have KH := Aside0.mk RH; have KB := Aside0.mk RB; have y0 : w2.cell? ⟨g, 0, none⟩ = some (.int .i64 (rd hs 0)) := RH.cell 0 (RR.lt4 hh (by decide)); have y1 : w2.cell? ⟨g, 1, none⟩ = some (.int .i64 (rd hs 1)) := RH.cell 1 (RR.lt4 hh (by decide)); have y2 : w2.cell? ⟨g, 2, none⟩ = some (.int .i64 (rd hs 2)) := RH.cell 2 (RR.lt4 hh (by decide)); have y3 : w2.cell? ⟨g, 3, none⟩ = some (.int .i64 (rd hs 3)) := RH.cell 3 (RR.lt4 hh (by decide)); obtain ⟨x0, x1, x2, x3, x4, x5, x6, x7, x8⟩ := cells9 RB.c; obtain ⟨f0, f1, f2, f3, f4, f5, f6, f7, f8⟩ := frozen9 RB.c; have gn := RR.ne_of hge; clear RH RB hb hR hge)
      | (go_at_call 10; (with_reducible refine (CW _).out.mono ?_); rintro e w4 ⟨rfl, hb⟩; have RB : RR.Rw w #[.int .i64 (rd hs 0), .int .i64 (rd hs 1), .int .i64 (rd hs 2), .int .i64 (rd hs 3), .slice none 0 0, .int .i64 0, .int .i64 0, .slice none 0 0, .int .i64 0] w4 := ((((KB.out.put 0 _).put 1 _).put 2 _).put 3 _).below hb; have KB3 := Aside0.mk RB; obtain ⟨W0, W1, W2, W3, W4, W5, W6, W7, W8⟩ := cells9 RB.c; clear RB hb)
      | (refine wpList_store_row rfl 25 _ _ rfl w.heap.size #[.int .i64 0, .int .i64 0, .int .i64 0, .int .i64 0, .slice none 0 0, .int .i64 0, .int .i64 0, .slice none 0 0, .int .i64 0] rfl rfl 25 #[.int .i64 0, .int .i64 0, .int .i64 0, .int .i64 0, .slice none 0 0, .int .i64 0, .int .i64 0, .slice none 0 0, .int .i64 0] KB3.out.res RR.info25 rfl (by kernel_rfl) ?_))
    refine bodyPost_ret (results_ct rfl _ _ w.heap.size 25 #[.int .i64 0, .int .i64 0, .int .i64 0, .int .i64 0, .slice none 0 0, .int .i64 0, .int .i64 0, .slice none 0 0, .int .i64 0] (0, 0) _ rfl (setRow_heap _ _ _ _ _ _ KB3.out.res) Try.underlying25 rfl RR.info25) rfl ?_
    exact ⟨_, _, rfl, Kd.R_nil _ _ _ _ _, Kd.R_nil _ _ _ _ _, below_setRow KB3.out.bel (Nat.le_refl _) _⟩
def RR.T20 : Bool × List (List Nat × List Nat) := (true, [([], []), ([0], [0]), ([], []), ([], []), ([3], [3]), ([4], [4]), ([2, 5], [2, 5]), ([6], [6]), ([], []), ([], []), ([9], [9]), ([10], [10]), ([8, 11], [8, 11]), ([12], [12]), ([], []), ([], []), ([15], [15]), ([16], [16]), ([14, 17], [14, 17]), ([18], [18]), ([7, 13, 19], [7, 13, 19]), ([20], [20]), ([1, 21], [1, 21]), ([0, 1, 2, 3, 4, 5, 6, 7, 8, 9, 10, 11, 12, 13, 14, 15, 16, 17, 18, 19, 20, 21, 22], []), ([23, 22, 22, 0, 1, 2, 3, 4, 5, 6, 7, 8, 9, 10, 11, 12, 13, 14, 15, 16, 17, 18, 19, 20, 21, 22], [22, 23])])
def RR.B20 : List Nat := [0, 1, 0, 0, 8, 24, 60, 124, 0, 0, 512, 1536, 3840, 7936, 0, 0, 32768, 98304, 245760, 507904, 1048572, 2097148, 4194303, 8388607, 16777215]
theorem RR.tab20 : rtab .any (opsOf Try.f14 20) = RR.T20 := by kernel_rfl
theorem RR.bits20 : waitsOk RR.T20.2 RR.B20 = true := by kernel_rfl
theorem RR.spans_next {w u : World} {k : Nat} {ps : List Int} {v : Value} {cs : Array Value} (h : Kd.R k48 48 u w.heap.size (fun _ => True) v ((List.range k).map (RR.span ps) ++ [RR.span ps k])) (hc : u.heap[w.heap.size + 1]? = some (.cells cs 25 (0, 0))) (x : Value) :
    Kd.R k48 48 (u.setCell ⟨w.heap.size + 1, 7, none⟩ x) w.heap.size (fun _ => True) v ((List.range (k + 1)).map (RR.span ps)) := by
  rw [List.range_succ, List.map_append]
  exact Kd.R_mono (Kd.R_far (Kd.R_types h hc (by decide)) (fun _ hk => hk.2) x) (fun _ _ => trivial)
theorem RR.spR {w u : World} {v : Value} {xs : List S48} {cs : Array Value} (h : Kd.R k48 48 u w.heap.size (fun _ => True) v xs) (hc : u.heap[w.heap.size + 1]? = some (.cells cs 25 (0, 0))) (x : Value) : Kd.R k48 48 (u.setCell ⟨w.heap.size + 1, 8, none⟩ x) w.heap.size (fun _ => True) v xs :=
  Kd.R_mono (Kd.R_far (Kd.R_types h hc (by decide)) (fun _ hk => hk.2) x) (fun _ _ => trivial)
theorem RR.spC {w u : World} {A : Option Addr} {c k : Nat} {xs : List S48} {cs : Array Value} (h : Kd.R k48 48 u w.heap.size (fun _ => True) (.slice A k c) xs) (hk : xs.length = k) (hc : u.heap[w.heap.size + 1]? = some (.cells cs 25 (0, 0))) (x : Value) : Kd.C k48 (u.setCell ⟨w.heap.size + 1, 8, none⟩ x) A k xs := by
  have := (Kd.R_reads' (RR.spR h hc x)).2.2
  rwa [hk] at this
set_option maxHeartbeats 4000000 in
set_option maxRecDepth 100000 in
theorem RR.two (a0 : ByteArray) (h32 : a0.size = 32) (hs ps : List Int) (hh : hs.length = 4) (hp : ps.length = 11) (h1 : rd hs 0 = 2) (h4 : 0 ≤ rd ps 0) (m : Nat) (hm : (m : Int) = min (rd ps 0) 3) (t : ByteArray) (e2 : Int)
    (CA : ∀ (A : Option Addr) (c : Nat) (W : World), Kd.C (Kd.int .i64) W A 4 [1, 1, 2, 4] → 4 ≤ c → Aside0 (Calls Try.prog 37 #[.slice A 4 c, .string a0] W fun e w' => ∃ v0 : Value, e = .returned (.tuple #[v0, .int .i64 0]) ∧ Kd.R (Kd.int .i64) 3 w' W.heap.size (fun _ => True) v0 hs ∧ Below W.heap.size W w'))
    (CB : ∀ (A : Option Addr) (c : Nat) (W : World), Kd.C (Kd.int .i64) W A 11 [1, 2, 2, 2, 2, 2, 2, 2, 2, 2, 2] → 11 ≤ c → Aside0 (Calls Try.prog 37 #[.slice A 11 c, .string (a0.extract 8 a0.size)] W fun e w' => ∃ v0 : Value, e = .returned (.tuple #[v0, .int .i64 0]) ∧ Kd.R (Kd.int .i64) 3 w' W.heap.size (fun _ => True) v0 ps ∧ Below W.heap.size W w'))
    (CW : ∀ (A : Option Addr) (c : Nat) (W : World), Kd.C k48 W A m ((List.range m).map (RR.span ps)) → m ≤ c → Aside0 (Calls Try.prog 10 #[.agg #[.int .i64 2, .int .i64 (rd hs 1), .int .i64 (rd hs 2), .int .i64 (rd hs 3), .slice none 0 0, .int .i64 0, .int .i64 0, .slice A m c, .int .i64 (rd ps 10)]] W fun e w' => e = .returned (.tuple #[.string t, .int .i64 e2]) ∧ Below W.heap.size W w'))
    (Pst : Ending → World → Prop) (w : World) (hg : e2 = 0 → t.toList = a0.toList → ∀ e w', (∃ v4_ v7_ : Value, e = .returned (.tuple #[.agg #[.int .i64 2, .int .i64 (rd hs 1), .int .i64 (rd hs 2), .int .i64 (rd hs 3), v4_, .int .i64 0, .int .i64 0, v7_, .int .i64 (rd ps 10)], .int .i64 0]) ∧ Kd.R (Kd.int .i64) 3 w' w.heap.size (fun _ => True) v4_ [] ∧ Kd.R k48 48 w' w.heap.size (fun _ => True) v7_ ((List.range m).map (RR.span ps)) ∧ Below w.heap.size w w') → Pst e w') (hn : ¬ (e2 = 0 ∧ t.toList = a0.toList) → ∀ e w', (∃ v4_ v7_ : Value, e = .returned (.tuple #[.agg #[.int .i64 0, .int .i64 0, .int .i64 0, .int .i64 0, v4_, .int .i64 0, .int .i64 0, v7_, .int .i64 0], .int .i64 15]) ∧ Kd.R (Kd.int .i64) 3 w' w.heap.size (fun _ => True) v4_ [] ∧ Kd.R k48 48 w' w.heap.size (fun _ => True) v7_ [] ∧ Below w.heap.size w w') → Pst e w') : Calls Try.prog 14 #[.string a0] w Pst := by
  have z0 : ((a0.size : Int) == 32) = true := by rw [h32]; rfl
  have z1 : ((a0.size : Int) != 32) = false := by rw [h32]; rfl
  have z8 : ((8 : Int) ≤ (a0.size : Int)) = True := eq_true (by omega)
  clear h32
  have n0 : (rd hs 0 != 0) = true := by rw [h1]; rfl
  have n1 : (rd hs 0 == 1) = false := by rw [h1]; rfl
  have n2 : (rd hs 0 == 2) = true := by rw [h1]; rfl
  have hu25 := Try.underlying25
  have HM := Aside0.mk hm
  have CW2 := Aside0.mk CW
  clear hm CW
  have HG := Aside0.mk hg
  have HNB := Aside0.mk hn
  clear hg hn
  go_enter Try.func14, Try.ntmps14
  go_wp2_with (first
    | (go_at_call 37; (with_reducible refine (CA _ _ _ ?cc (Nat.le_refl _)).out.mono ?_); (case cc => exact RR.lit_C _ _ (by rw [RR.alloc_size, RR.alloc_size]) [1, 1, 2, 4] (by decide)); rintro e w2 ⟨v0, rfl, hR, hb⟩; obtain ⟨g, cap, rfl, hcap, hge, RH⟩ := RR.got hR hh; have RB := ((RR.Rw.first w).alloc _).below hb; have KH := Aside0.mk RH; have KB := Aside0.mk RB; have y0 : w2.cell? ⟨g, 0, none⟩ = some (.int .i64 (rd hs 0)) := RH.cell 0 (RR.lt4 hh (by decide)); have y1 : w2.cell? ⟨g, 1, none⟩ = some (.int .i64 (rd hs 1)) := RH.cell 1 (RR.lt4 hh (by decide)); have y2 : w2.cell? ⟨g, 2, none⟩ = some (.int .i64 (rd hs 2)) := RH.cell 2 (RR.lt4 hh (by decide)); have y3 : w2.cell? ⟨g, 3, none⟩ = some (.int .i64 (rd hs 3)) := RH.cell 3 (RR.lt4 hh (by decide)); obtain ⟨x0, x1, x2, x3, x4, x5, x6, x7, x8⟩ := cells9 RB.c; obtain ⟨f0, f1, f2, f3, f4, f5, f6, f7, f8⟩ := frozen9 RB.c; have gn := RR.ne_of hge; clear RH RB hb hR hge)
    | (go_at_call 37; (with_reducible refine (CB _ _ _ ?cc (Nat.le_refl _)).out.mono ?_); (case cc => exact RR.lit_C _ _ (by rw [RR.put_size, RR.put_size, RR.put_size, RR.put_size]) [1, 2, 2, 2, 2, 2, 2, 2, 2, 2, 2] (by decide)); rintro e w3 ⟨v1, rfl, hR, hb⟩; obtain ⟨g2, cap2, rfl, hcap2, hge2, RH⟩ := RR.got hR hp; have KN := Aside0.mk RH; have RB : RR.Rw w #[.int .i64 2, .int .i64 (rd hs 1), .int .i64 (rd hs 2), .int .i64 (rd hs 3), .slice none 0 0, .int .i64 0, .int .i64 0, .slice none 0 0, .int .i64 0] w3 := (((((KB.out.put 0 _).put 1 _).put 2 _).put 3 _).alloc _).below hb; have KB2 := Aside0.mk RB; have KH2 := Aside0.mk ((((((KH.out.far gn.1 _).far gn.1 _).far gn.1 _).far gn.1 _).alloc _).below hb); have gn2 := RR.ne_of2 KB.out.size hge2; clear RH RB hb hR hge2))
  go_loopg [11] 3 (fun kq v11 u => ∃ (k : Nat) (V : Value), v11 = .int .i64 (k : Int) ∧ k ≤ 3 ∧ (k : Int) ≤ rd ps 0 ∧ 3 ≤ k + kq ∧ Aside0 (RR.Rw w #[.int .i64 2, .int .i64 (rd hs 1), .int .i64 (rd hs 2), .int .i64 (rd hs 3), .slice none 0 0, .int .i64 0, .int .i64 0, V, .int .i64 0] u) ∧ Aside0 (Kd.R k48 48 u w.heap.size (fun _ => True) V ((List.range k).map (RR.span ps))) ∧ Aside0 (RR.Got g hs u) ∧ Aside0 (RR.Got g2 ps u))
  case atStart => exact ⟨0, .slice none 0 0, rfl, by omega, h4, by omega, KB2, ⟨Kd.R_nil _ _ _ _ _⟩, KH2, KN⟩
  case round =>
    obtain ⟨k, V, rfl, hk3, hkn, hkq, KB3, HR, KH3, KN3⟩ := hrel
    by_cases hc : (k : Int) < rd ps 0 ∧ k < 3
    · obtain ⟨c1, c2⟩ := hc
      obtain ⟨q, rfl⟩ : ∃ q, gk = q + 1 := ⟨gk - 1, by omega⟩
      have d1 : decide ((k : Int) < rd ps 0) = true := decide_eq_true c1
      have d2 : decide ((k : Int) < 3) = true := decide_eq_true (by omega)
      have wk : wrap64 ((k : Int) + 1) = (k : Int) + 1 := by simp only [wrap64]; omega
      have p0 : wr.cell? ⟨g2, 0, none⟩ = some (.int .i64 (rd ps 0)) := KN3.out.cell 0 (by omega)
      have w3 : IntKind.i64.wrap (3 * (k : Int)) = 3 * (k : Int) := (i64_w _).trans (by simp only [wrap64]; omega)
      have w31 : IntKind.i64.wrap (1 + 3 * (k : Int)) = 1 + 3 * (k : Int) := (i64_w _).trans (by simp only [wrap64]; omega)
      have w32 : IntKind.i64.wrap (2 + 3 * (k : Int)) = 2 + 3 * (k : Int) := (i64_w _).trans (by simp only [wrap64]; omega)
      have w33 : IntKind.i64.wrap (3 + 3 * (k : Int)) = 3 + 3 * (k : Int) := (i64_w _).trans (by simp only [wrap64]; omega)
      have l1 : (0 ≤ 1 + 3 * (k : Int)) = True := eq_true (by omega)
      have l2 : (0 ≤ 2 + 3 * (k : Int)) = True := eq_true (by omega)
      have l3 : (0 ≤ 3 + 3 * (k : Int)) = True := eq_true (by omega)
      have m1 : (1 + 3 * (k : Int) < 11) = True := eq_true (by omega)
      have m2 : (2 + 3 * (k : Int) < 11) = True := eq_true (by omega)
      have m3 : (3 + 3 * (k : Int) < 11) = True := eq_true (by omega)
      have t1 : (1 + 3 * (k : Int)).toNat = 1 + 3 * k := by omega
      have t2 : (2 + 3 * (k : Int)).toNat = 2 + 3 * k := by omega
      have t3 : (3 + 3 * (k : Int)).toNat = 3 + 3 * k := by omega
      have HN := Aside0.mk (And.intro hkq (And.intro c1 c2))
      clear c1 hk3 hkn hkq
      go_wp2
      refine start_ (n := 25) (S := fun w' => w'.cell? ⟨w.heap.size + 1, 7, none⟩ = some V ∧ w'.cell? ⟨g2, 1 + 3 * k, none⟩ = some (.int .i64 (RR.span ps k).f0) ∧ w'.cell? ⟨g2, 2 + 3 * k, none⟩ = some (.int .i64 (RR.span ps k).f1) ∧ w'.cell? ⟨g2, 3 + 3 * k, none⟩ = some (.int .i64 (RR.span ps k).f2)) (ds := [24]) (mk_ 0 25) (by kernel_rfl) rfl rfl (RR.S_of (RR.Rw.drew KB3.out) (RR.Got.drew KN3.out) hp c2) (fun hHeld => ?_)
      refine with_tabW RR.tab20 RR.bits20 (fun HT_ HW_ => ?_)
      have kb := RR.Rw.drew KB3.out
      have hr := Kd.R_drew HR.out
      have kh := RR.Got.drew KH3.out
      have kn := RR.Got.drew KN3.out
      generalize wr.drew = W1 at kb hr kh kn hHeld ⊢
      refine pure_ (i := 0) (N := some 88) (v := ?_) (a' := ?_) (mk_ 1 25) rfl rfl (any_of HT_.out (by kernel_rfl)) (fun _ _ _ h => h) (Or.inl ⟨by rfl, ?_⟩) ?_ ?_
      rotate_left
      · intro w'
        go_simp
        with_reducible rfl
      rotate_left
      · simp only [Act.put, List.setIfInBounds_toArray, List.set_cons_zero, List.set_cons_succ, i64_w, i32_w]
        rfl
      refine pure_ (i := 2) (N := some 90) (v := ?_) (a' := ?_) #[true, false, true, false, false, false, false, false, false, false, false, false, false, false, false, false, false, false, false, false, false, false, false, false, false] rfl rfl (any_of HT_.out (by kernel_rfl)) (fun _ _ _ h => h) (Or.inl ⟨by rfl, ?_⟩) ?_ ?_
      rotate_left
      · intro w'
        go_simp
        with_reducible rfl
      rotate_left
      · simp only [Act.put, List.setIfInBounds_toArray, List.set_cons_zero, List.set_cons_succ, i64_w, i32_w]
        rfl
      refine pure_ (i := 3) (N := some 91) (v := ?_) (a' := ?_) #[true, false, true, true, false, false, false, false, false, false, false, false, false, false, false, false, false, false, false, false, false, false, false, false, false] rfl rfl (any_of HT_.out (by kernel_rfl)) (fun _ _ _ h => h) (Or.inl ⟨by rfl, ?_⟩) ?_ ?_
      rotate_left
      · intro w'
        go_simp
        with_reducible rfl
      rotate_left
      · simp only [Act.put, List.setIfInBounds_toArray, List.set_cons_zero, List.set_cons_succ, i64_w, i32_w]
        rfl
      refine pure_ (i := 4) (N := some 92) (v := ?_) (a' := ?_) #[true, false, true, true, true, false, false, false, false, false, false, false, false, false, false, false, false, false, false, false, false, false, false, false, false] rfl rfl (any_of HT_.out (by kernel_rfl)) (fun _ _ _ h => h) (Or.inl ⟨by rfl, ?_⟩) ?_ ?_
      rotate_left
      · intro w'
        go_simp
        with_reducible rfl
      rotate_left
      · simp only [Act.put, List.setIfInBounds_toArray, List.set_cons_zero, List.set_cons_succ, i64_w, i32_w]
        rfl
      refine pure_ (i := 5) (N := some 93) (v := ?_) (a' := ?_) #[true, false, true, true, true, true, false, false, false, false, false, false, false, false, false, false, false, false, false, false, false, false, false, false, false] rfl rfl (any_of HT_.out (by kernel_rfl)) (fun _ _ _ h => h) (Or.inl ⟨by rfl, ?_⟩) ?_ ?_
      rotate_left
      · intro w'
        go_simp
        with_reducible rfl
      rotate_left
      · simp only [Act.put, List.setIfInBounds_toArray, List.set_cons_zero, List.set_cons_succ, i64_w, i32_w]
        rfl
      refine pure_ (i := 6) (N := some 94) (v := ?_) (a' := ?_) #[true, false, true, true, true, true, true, false, false, false, false, false, false, false, false, false, false, false, false, false, false, false, false, false, false] rfl rfl (any_of HT_.out (by kernel_rfl)) (fun _ _ _ h => h) (Or.inl ⟨by rfl, ?_⟩) ?_ ?_
      rotate_left
      · intro w'
        go_simp
        with_reducible rfl
      rotate_left
      · simp only [Act.put, List.setIfInBounds_toArray, List.set_cons_zero, List.set_cons_succ, i64_w, i32_w]
        rfl
      refine pure_ (i := 8) (N := some 96) (v := ?_) (a' := ?_) #[true, false, true, true, true, true, true, false, true, false, false, false, false, false, false, false, false, false, false, false, false, false, false, false, false] rfl rfl (any_of HT_.out (by kernel_rfl)) (fun _ _ _ h => h) (Or.inl ⟨by rfl, ?_⟩) ?_ ?_
      rotate_left
      · intro w'
        go_simp
        with_reducible rfl
      rotate_left
      · simp only [Act.put, List.setIfInBounds_toArray, List.set_cons_zero, List.set_cons_succ, i64_w, i32_w]
        rfl
      refine pure_ (i := 9) (N := some 97) (v := ?_) (a' := ?_) #[true, false, true, true, true, true, true, false, true, true, false, false, false, false, false, false, false, false, false, false, false, false, false, false, false] rfl rfl (any_of HT_.out (by kernel_rfl)) (fun _ _ _ h => h) (Or.inl ⟨by rfl, ?_⟩) ?_ ?_
      rotate_left
      · intro w'
        go_simp
        with_reducible rfl
      rotate_left
      · simp only [Act.put, List.setIfInBounds_toArray, List.set_cons_zero, List.set_cons_succ, i64_w, i32_w]
        rfl
      refine pure_ (i := 10) (N := some 98) (v := ?_) (a' := ?_) #[true, false, true, true, true, true, true, false, true, true, true, false, false, false, false, false, false, false, false, false, false, false, false, false, false] rfl rfl (any_of HT_.out (by kernel_rfl)) (fun _ _ _ h => h) (Or.inl ⟨by rfl, ?_⟩) ?_ ?_
      rotate_left
      · intro w'
        go_simp
        with_reducible rfl
      rotate_left
      · simp only [Act.put, List.setIfInBounds_toArray, List.set_cons_zero, List.set_cons_succ, i64_w, i32_w]
        rfl
      refine pure_ (i := 11) (N := some 99) (v := ?_) (a' := ?_) #[true, false, true, true, true, true, true, false, true, true, true, true, false, false, false, false, false, false, false, false, false, false, false, false, false] rfl rfl (any_of HT_.out (by kernel_rfl)) (fun _ _ _ h => h) (Or.inl ⟨by rfl, ?_⟩) ?_ ?_
      rotate_left
      · intro w'
        go_simp
        with_reducible rfl
      rotate_left
      · simp only [Act.put, List.setIfInBounds_toArray, List.set_cons_zero, List.set_cons_succ, i64_w, i32_w]
        rfl
      refine pure_ (i := 12) (N := some 100) (v := ?_) (a' := ?_) #[true, false, true, true, true, true, true, false, true, true, true, true, true, false, false, false, false, false, false, false, false, false, false, false, false] rfl rfl (any_of HT_.out (by kernel_rfl)) (fun _ _ _ h => h) (Or.inl ⟨by rfl, ?_⟩) ?_ ?_
      rotate_left
      · intro w'
        go_simp
        with_reducible rfl
      rotate_left
      · simp only [Act.put, List.setIfInBounds_toArray, List.set_cons_zero, List.set_cons_succ, i64_w, i32_w]
        rfl
      refine pure_ (i := 14) (N := some 102) (v := ?_) (a' := ?_) #[true, false, true, true, true, true, true, false, true, true, true, true, true, false, true, false, false, false, false, false, false, false, false, false, false] rfl rfl (any_of HT_.out (by kernel_rfl)) (fun _ _ _ h => h) (Or.inl ⟨by rfl, ?_⟩) ?_ ?_
      rotate_left
      · intro w'
        go_simp
        with_reducible rfl
      rotate_left
      · simp only [Act.put, List.setIfInBounds_toArray, List.set_cons_zero, List.set_cons_succ, i64_w, i32_w]
        rfl
      refine pure_ (i := 15) (N := some 103) (v := ?_) (a' := ?_) #[true, false, true, true, true, true, true, false, true, true, true, true, true, false, true, true, false, false, false, false, false, false, false, false, false] rfl rfl (any_of HT_.out (by kernel_rfl)) (fun _ _ _ h => h) (Or.inl ⟨by rfl, ?_⟩) ?_ ?_
      rotate_left
      · intro w'
        go_simp
        with_reducible rfl
      rotate_left
      · simp only [Act.put, List.setIfInBounds_toArray, List.set_cons_zero, List.set_cons_succ, i64_w, i32_w]
        rfl
      refine pure_ (i := 16) (N := some 104) (v := ?_) (a' := ?_) #[true, false, true, true, true, true, true, false, true, true, true, true, true, false, true, true, true, false, false, false, false, false, false, false, false] rfl rfl (any_of HT_.out (by kernel_rfl)) (fun _ _ _ h => h) (Or.inl ⟨by rfl, ?_⟩) ?_ ?_
      rotate_left
      · intro w'
        go_simp
        with_reducible rfl
      rotate_left
      · simp only [Act.put, List.setIfInBounds_toArray, List.set_cons_zero, List.set_cons_succ, i64_w, i32_w]
        rfl
      refine pure_ (i := 17) (N := some 105) (v := ?_) (a' := ?_) #[true, false, true, true, true, true, true, false, true, true, true, true, true, false, true, true, true, true, false, false, false, false, false, false, false] rfl rfl (any_of HT_.out (by kernel_rfl)) (fun _ _ _ h => h) (Or.inl ⟨by rfl, ?_⟩) ?_ ?_
      rotate_left
      · intro w'
        go_simp
        with_reducible rfl
      rotate_left
      · simp only [Act.put, List.setIfInBounds_toArray, List.set_cons_zero, List.set_cons_succ, i64_w, i32_w]
        rfl
      refine pure_ (i := 18) (N := some 106) (v := ?_) (a' := ?_) #[true, false, true, true, true, true, true, false, true, true, true, true, true, false, true, true, true, true, true, false, false, false, false, false, false] rfl rfl (any_of HT_.out (by kernel_rfl)) (fun _ _ _ h => h) (Or.inl ⟨by rfl, ?_⟩) ?_ ?_
      rotate_left
      · intro w'
        go_simp
        with_reducible rfl
      rotate_left
      · simp only [Act.put, List.setIfInBounds_toArray, List.set_cons_zero, List.set_cons_succ, i64_w, i32_w]
        rfl
      refine take_ (i := 1) (N := some 89) (v := ?_) (a' := ?_) #[true, true, true, true, true, true, true, false, true, true, true, true, true, false, true, true, true, true, true, false, false, false, false, false, false] rfl rfl (take_ofW HT_.out HW_.out (by kernel_rfl)) (fun _ _ _ h => h) (Or.inl ⟨by rfl, ?_⟩) hHeld ?_ ?_
      rotate_left
      · rintro w' ⟨s0, s1, s2, s3⟩
        go_simp
        with_reducible rfl
      rotate_left
      · simp only [Act.put, List.setIfInBounds_toArray, List.set_cons_zero, List.set_cons_succ, i64_w, i32_w]
        rfl
      refine take_ (i := 7) (N := some 95) (v := ?_) (a' := ?_) #[true, true, true, true, true, true, true, true, true, true, true, true, true, false, true, true, true, true, true, false, false, false, false, false, false] rfl rfl (take_ofW HT_.out HW_.out (by kernel_rfl)) (fun _ _ _ h => h) (Or.inl ⟨by rfl, ?_⟩) hHeld ?_ ?_
      rotate_left
      · rintro w' ⟨s0, s1, s2, s3⟩
        go_simp
        with_reducible rfl
      rotate_left
      · simp only [Act.put, List.setIfInBounds_toArray, List.set_cons_zero, List.set_cons_succ, i64_w, i32_w]
        rfl
      refine take_ (i := 13) (N := some 101) (v := ?_) (a' := ?_) (mk_ 19 25) rfl rfl (take_ofW HT_.out HW_.out (by kernel_rfl)) (fun _ _ _ h => h) (Or.inl ⟨by rfl, ?_⟩) hHeld ?_ ?_
      rotate_left
      · rintro w' ⟨s0, s1, s2, s3⟩
        go_simp
        with_reducible rfl
      rotate_left
      · simp only [Act.put, List.setIfInBounds_toArray, List.set_cons_zero, List.set_cons_succ, i64_w, i32_w]
        rfl
      refine take_ (i := 19) (N := some 107) (v := ?_) (a' := ?_) (mk_ 20 25) rfl rfl (take_ofW HT_.out HW_.out (by kernel_rfl)) (fun _ _ _ h => h) (Or.inl ⟨by rfl, ?_⟩) hHeld ?_ ?_
      rotate_left
      · rintro w' ⟨s0, s1, s2, s3⟩
        go_simp
        with_reducible rfl
      rotate_left
      · simp only [Act.put, List.setIfInBounds_toArray, List.set_cons_zero, List.set_cons_succ, i64_w, i32_w]
        rfl
      refine pure_ (i := 20) (N := some 108) (v := ?_) (a' := ?_) (mk_ 21 25) rfl rfl (any_of HT_.out (by kernel_rfl)) (fun _ _ _ h => h) (Or.inl ⟨by rfl, ?_⟩) ?_ ?_
      rotate_left
      · intro w'
        go_simp
        with_reducible rfl
      rotate_left
      · simp only [Act.put, List.setIfInBounds_toArray, List.set_cons_zero, List.set_cons_succ, i64_w, i32_w]
        rfl
      refine one_ (i := 21) (N := some 109) (mk_ 22 25) rfl rfl (one_of HT_.out (by kernel_rfl)) (by decide) (fun K hK => ?_)
      refine value_ (w1 := W1.alloc (.cells #[.int .i64 (RR.span ps k).f0, .int .i64 (RR.span ps k).f1, .int .i64 (RR.span ps k).f2] 48)) (v := .slice (some ⟨W1.heap.size, 0, none⟩) 1 1) (by rfl) rfl ?_ ?_
      · go_simp
        try rfl
      refine hK.out _ _ (RR.S_of (kb.alloc _) (kn.alloc _) hp c2) (fun hHeld => ?_)
      clear hK K
      refine norm_ (a' := ?_) ?_ ?_
      rotate_left
      · show Act.put _ (some 109) _ = _
        simp only [Act.put, List.setIfInBounds_toArray, List.set_cons_zero, List.set_cons_succ, i64_w, i32_w]
        rfl
      refine one_ (i := 22) (N := some 110) (mk_ 23 25) rfl rfl (one_of HT_.out (by kernel_rfl)) (by decide) (fun K hK => ?_)
      refine Kd.R_append_step k48 (w0 := w) w.heap.size (by rfl) (.tmp 89) (.tmp 109) 23 48 (.agg #[.int .i64 0, .int .i64 0, .int .i64 0]) 24 rfl Try.underlying23 RR.info48 rfl (by decide) (by omega) V ((List.range k).map (RR.span ps)) (RR.span ps k) [.int .i64 (RR.span ps k).f0, .int .i64 (RR.span ps k).f1, .int .i64 (RR.span ps k).f2] (fun _ => True) (fun _ => False) rfl rfl (k48_mkM _ _ _ _) (fun _ h => h.elim) (fun _ _ => trivial) hr kb.bel kb.bel.size (RR.len24 ps c2) ?_
      intro v8 w8 ho hb hg hat
      have kb8 := kb.grown hb hg hr
      have kh8 := kh.grown hg hr
      have kn8 := kn.grown hg hr
      refine hK.out _ _ (RR.S_of kb8 kn8 hp c2) (fun hHeld => ?_)
      clear hK K
      refine norm_ (a' := ?_) ?_ ?_
      rotate_left
      · show Act.put _ (some 110) _ = _
        simp only [Act.put, List.setIfInBounds_toArray, List.set_cons_zero, List.set_cons_succ, i64_w, i32_w]
        rfl
      refine pure_ (i := 23) (N := some 111) (v := ?_) (a' := ?_) (mk_ 24 25) rfl rfl (any_of HT_.out (by kernel_rfl)) (fun _ _ _ h => h) (Or.inl ⟨by rfl, ?_⟩) ?_ ?_
      rotate_left
      · intro w'
        go_simp
        with_reducible rfl
      rotate_left
      · simp only [Act.put, List.setIfInBounds_toArray, List.set_cons_zero, List.set_cons_succ, i64_w, i32_w]
        rfl
      obtain ⟨A8, c8, e8⟩ := Kd.R_slice ho
      rw [RR.len_next] at e8
      subst e8
      refine last_ (i := 24) (N := none) (mk_ 25 25) rfl rfl (one_of HT_.out (by kernel_rfl)) (by decide) (fun K hK => ?_)
      have hs24 : w8.cell? ⟨w.heap.size + 1, 7, none⟩ = some V := (blk_cell kb8.c 7).trans rfl
      have hf24 := blk_frozen kb8.c 7
      refine skip_ (w1 := ?_) (by rfl) rfl ?_ ?_
      rotate_left
      · go_simp
        rfl
      refine hK.out _ _ ?_
      clear hK K
      refine done_ (done_of HT_.out (by kernel_rfl)) ?_
      have KB5 : Aside0 (RR.Rw w #[.int .i64 2, .int .i64 (rd hs 1), .int .i64 (rd hs 2), .int .i64 (rd hs 3), .slice none 0 0, .int .i64 0, .int .i64 0, .slice A8 (k + 1) c8, .int .i64 0] (w8.setCell ⟨w.heap.size + 1, 7, none⟩ _)) := ⟨kb8.put 7 _⟩
      have HR5 := Aside0.mk (RR.spans_next ho kb8.c (.slice A8 (k + 1) c8))
      have KH5 := Aside0.mk (kh8.far (p := ⟨w.heap.size + 1, 7, none⟩) gn.1 (.slice A8 (k + 1) c8))
      have KN5 := Aside0.mk (kn8.far (p := ⟨w.heap.size + 1, 7, none⟩) gn2.1 (.slice A8 (k + 1) c8))
      clear w3 w31 w32 w33 l1 l2 l3 m1 m2 m3 t1 t2 t3 x0 x1 x2 x3 x4 x5 x6 x7 x8 f0 f1 f2 f3 f4 f5 f6 f7 f8 p0 d1 d2 hs24 hf24 kb8 kh8 kn8 hat hg hb ho HT_ HW_
      (try clear hr)
      (try clear kb kh kn)
      (try clear hHeld)
      (try clear hHeld)
      go_wp2
      go_roundg q
      case measure => exact Nat.lt_succ_self _
      case rel =>
        obtain ⟨hkq, c1, c2⟩ := HN.out
        exact ⟨k + 1, _, by first | rfl | (rw [wk]; rfl) | (rw [wk]; done), by omega, by omega, by omega, KB5, HR5, KH5, KN5⟩
    · have hm := HM.out
      obtain rfl : k = m := by omega
      have p0 : wr.cell? ⟨g2, 0, none⟩ = some (.int .i64 (rd ps 0)) := KN3.out.cell 0 (RR.lt4 hp (by decide))
      have p10 : wr.cell? ⟨g2, 10, none⟩ = some (.int .i64 (rd ps 10)) := KN3.out.cell 10 (RR.lt4 hp (by decide))
      obtain ⟨A7, c7, e7⟩ := Kd.R_slice HR.out
      rw [RR.len_k] at e7
      subst e7
      have hc7 := (Kd.R_reads' HR.out).2.1
      obtain ⟨x0, x1, x2, x3, x4, x5, x6, x7, x8⟩ := cells9 KB3.out.c
      obtain ⟨f0, f1, f2, f3, f4, f5, f6, f7, f8⟩ := frozen9 KB3.out.c
      have y0b : wr.cell? ⟨g, 0, none⟩ = some (.int .i64 2) := (KH3.out.cell 0 (RR.lt4 hh (by decide))).trans (by rw [show rd hs ((0 : Nat) : Int) = 2 from h1])
      by_cases c1 : (k : Int) < rd ps 0
      · have d1 : decide ((k : Int) < rd ps 0) = true := decide_eq_true c1
        have d2 : decide ((k : Int) < 3) = false := decide_eq_false (by omega)
        clear hc c1 hk3 hkn hkq hm
        by_cases he : e2 = 0
        · subst he
          have e0 : ((0 : Int) != 0) = false := rfl
          by_cases ht : t.toList = a0.toList
          · have t0 : (t.toList == a0.toList) = true := beq_iff_eq.mpr ht
            have t1 : (t.toList != a0.toList) = false := bne_eq_false_iff_eq.mpr ht
            have HT := Aside0.mk ht
            clear ht
            go_wp2_with (first
              | (go_at_call 10; (with_reducible refine (CW2.out _ _ _ ?cc hc7).out.mono ?_); (case cc => exact RR.spC HR.out RR.len_k KB3.out.c _); rintro e w4 ⟨rfl, hb⟩; have RB : RR.Rw w #[.int .i64 2, .int .i64 (rd hs 1), .int .i64 (rd hs 2), .int .i64 (rd hs 3), .slice none 0 0, .int .i64 0, .int .i64 0, .slice A7 k c7, .int .i64 (rd ps 10)] w4 := (KB3.out.put 8 _).below hb; have KB4 := Aside0.mk RB; have HR4 := Aside0.mk (Kd.R_below (RR.spR HR.out KB3.out.c _) hb); obtain ⟨W0, W1, W2, W3, W4, W5, W6, W7, W8⟩ := cells9 RB.c; clear RB hb)
              | (refine wpList_store_row rfl 25 _ _ rfl w.heap.size #[.int .i64 2, .int .i64 (rd hs 1), .int .i64 (rd hs 2), .int .i64 (rd hs 3), .slice none 0 0, .int .i64 0, .int .i64 0, .slice A7 k c7, .int .i64 (rd ps 10)] rfl rfl 25 #[.int .i64 0, .int .i64 0, .int .i64 0, .int .i64 0, .slice none 0 0, .int .i64 0, .int .i64 0, .slice none 0 0, .int .i64 0] KB4.out.res RR.info25 rfl (by kernel_rfl) ?_))
            refine bodyPost_ret (results_ct rfl _ _ w.heap.size 25 #[.int .i64 2, .int .i64 (rd hs 1), .int .i64 (rd hs 2), .int .i64 (rd hs 3), .slice none 0 0, .int .i64 0, .int .i64 0, .slice A7 k c7, .int .i64 (rd ps 10)] (0, 0) _ rfl (setRow_heap _ _ _ _ _ _ KB4.out.res) Try.underlying25 rfl RR.info25) rfl ?_
            exact HG.out (by first | exact rfl | exact trivial) HT.out _ _ ⟨_, _, rfl, Kd.R_nil _ _ _ _ _, RR.res HR4.out KB4.out (by decide) (Nat.le_refl _) _, below_setRow KB4.out.bel (Nat.le_refl _) _⟩
          · have t0 : (t.toList == a0.toList) = false := beq_eq_false_iff_ne.mpr ht
            have t1 : (t.toList != a0.toList) = true := bne_iff_ne.mpr ht
            have HT := Aside0.mk ht
            clear ht
            go_wp2_with (first
              | (go_at_call 10; (with_reducible refine (CW2.out _ _ _ ?cc hc7).out.mono ?_); (case cc => exact RR.spC HR.out RR.len_k KB3.out.c _); rintro e w4 ⟨rfl, hb⟩; have RB : RR.Rw w #[.int .i64 2, .int .i64 (rd hs 1), .int .i64 (rd hs 2), .int .i64 (rd hs 3), .slice none 0 0, .int .i64 0, .int .i64 0, .slice A7 k c7, .int .i64 (rd ps 10)] w4 := (KB3.out.put 8 _).below hb; have KB4 := Aside0.mk RB; have HR4 := Aside0.mk (Kd.R_below (RR.spR HR.out KB3.out.c _) hb); obtain ⟨W0, W1, W2, W3, W4, W5, W6, W7, W8⟩ := cells9 RB.c; clear RB hb)
              | (refine wpList_store_row rfl 25 _ _ rfl w.heap.size #[.int .i64 0, .int .i64 0, .int .i64 0, .int .i64 0, .slice none 0 0, .int .i64 0, .int .i64 0, .slice none 0 0, .int .i64 0] rfl rfl 25 #[.int .i64 0, .int .i64 0, .int .i64 0, .int .i64 0, .slice none 0 0, .int .i64 0, .int .i64 0, .slice none 0 0, .int .i64 0] KB4.out.res RR.info25 rfl (by kernel_rfl) ?_))
            refine bodyPost_ret (results_ct rfl _ _ w.heap.size 25 #[.int .i64 0, .int .i64 0, .int .i64 0, .int .i64 0, .slice none 0 0, .int .i64 0, .int .i64 0, .slice none 0 0, .int .i64 0] (0, 0) _ rfl (setRow_heap _ _ _ _ _ _ KB4.out.res) Try.underlying25 rfl RR.info25) rfl ?_
            exact HNB.out (fun h => HT.out h.2) _ _ ⟨_, _, rfl, Kd.R_nil _ _ _ _ _, Kd.R_nil _ _ _ _ _, below_setRow KB4.out.bel (Nat.le_refl _) _⟩
        · have e0 : (e2 == 0) = false := beq_eq_false_iff_ne.mpr he
          have e1 : (e2 != 0) = true := bne_iff_ne.mpr he
          have HT := Aside0.mk he
          clear he
          go_wp2_with (first
            | (go_at_call 10; (with_reducible refine (CW2.out _ _ _ ?cc hc7).out.mono ?_); (case cc => exact RR.spC HR.out RR.len_k KB3.out.c _); rintro e w4 ⟨rfl, hb⟩; have RB : RR.Rw w #[.int .i64 2, .int .i64 (rd hs 1), .int .i64 (rd hs 2), .int .i64 (rd hs 3), .slice none 0 0, .int .i64 0, .int .i64 0, .slice A7 k c7, .int .i64 (rd ps 10)] w4 := (KB3.out.put 8 _).below hb; have KB4 := Aside0.mk RB; have HR4 := Aside0.mk (Kd.R_below (RR.spR HR.out KB3.out.c _) hb); obtain ⟨W0, W1, W2, W3, W4, W5, W6, W7, W8⟩ := cells9 RB.c; clear RB hb)
            | (refine wpList_store_row rfl 25 _ _ rfl w.heap.size #[.int .i64 0, .int .i64 0, .int .i64 0, .int .i64 0, .slice none 0 0, .int .i64 0, .int .i64 0, .slice none 0 0, .int .i64 0] rfl rfl 25 #[.int .i64 0, .int .i64 0, .int .i64 0, .int .i64 0, .slice none 0 0, .int .i64 0, .int .i64 0, .slice none 0 0, .int .i64 0] KB4.out.res RR.info25 rfl (by kernel_rfl) ?_))
          refine bodyPost_ret (results_ct rfl _ _ w.heap.size 25 #[.int .i64 0, .int .i64 0, .int .i64 0, .int .i64 0, .slice none 0 0, .int .i64 0, .int .i64 0, .slice none 0 0, .int .i64 0] (0, 0) _ rfl (setRow_heap _ _ _ _ _ _ KB4.out.res) Try.underlying25 rfl RR.info25) rfl ?_
          exact HNB.out (fun h => HT.out h.1) _ _ ⟨_, _, rfl, Kd.R_nil _ _ _ _ _, Kd.R_nil _ _ _ _ _, below_setRow KB4.out.bel (Nat.le_refl _) _⟩
      · have d1 : decide ((k : Int) < rd ps 0) = false := decide_eq_false c1
        clear hc c1 hk3 hkn hkq hm
        by_cases he : e2 = 0
        · subst he
          have e0 : ((0 : Int) != 0) = false := rfl
          by_cases ht : t.toList = a0.toList
          · have t0 : (t.toList == a0.toList) = true := beq_iff_eq.mpr ht
            have t1 : (t.toList != a0.toList) = false := bne_eq_false_iff_eq.mpr ht
            have HT := Aside0.mk ht
            clear ht
            go_wp2_with (first
              | (go_at_call 10; (with_reducible refine (CW2.out _ _ _ ?cc hc7).out.mono ?_); (case cc => exact RR.spC HR.out RR.len_k KB3.out.c _); rintro e w4 ⟨rfl, hb⟩; have RB : RR.Rw w #[.int .i64 2, .int .i64 (rd hs 1), .int .i64 (rd hs 2), .int .i64 (rd hs 3), .slice none 0 0, .int .i64 0, .int .i64 0, .slice A7 k c7, .int .i64 (rd ps 10)] w4 := (KB3.out.put 8 _).below hb; have KB4 := Aside0.mk RB; have HR4 := Aside0.mk (Kd.R_below (RR.spR HR.out KB3.out.c _) hb); obtain ⟨W0, W1, W2, W3, W4, W5, W6, W7, W8⟩ := cells9 RB.c; clear RB hb)
              | (refine wpList_store_row rfl 25 _ _ rfl w.heap.size #[.int .i64 2, .int .i64 (rd hs 1), .int .i64 (rd hs 2), .int .i64 (rd hs 3), .slice none 0 0, .int .i64 0, .int .i64 0, .slice A7 k c7, .int .i64 (rd ps 10)] rfl rfl 25 #[.int .i64 0, .int .i64 0, .int .i64 0, .int .i64 0, .slice none 0 0, .int .i64 0, .int .i64 0, .slice none 0 0, .int .i64 0] KB4.out.res RR.info25 rfl (by kernel_rfl) ?_))
            refine bodyPost_ret (results_ct rfl _ _ w.heap.size 25 #[.int .i64 2, .int .i64 (rd hs 1), .int .i64 (rd hs 2), .int .i64 (rd hs 3), .slice none 0 0, .int .i64 0, .int .i64 0, .slice A7 k c7, .int .i64 (rd ps 10)] (0, 0) _ rfl (setRow_heap _ _ _ _ _ _ KB4.out.res) Try.underlying25 rfl RR.info25) rfl ?_
            exact HG.out (by first | exact rfl | exact trivial) HT.out _ _ ⟨_, _, rfl, Kd.R_nil _ _ _ _ _, RR.res HR4.out KB4.out (by decide) (Nat.le_refl _) _, below_setRow KB4.out.bel (Nat.le_refl _) _⟩
          · have t0 : (t.toList == a0.toList) = false := beq_eq_false_iff_ne.mpr ht
            have t1 : (t.toList != a0.toList) = true := bne_iff_ne.mpr ht
            have HT := Aside0.mk ht
            clear ht
            go_wp2_with (first
              | (go_at_call 10; (with_reducible refine (CW2.out _ _ _ ?cc hc7).out.mono ?_); (case cc => exact RR.spC HR.out RR.len_k KB3.out.c _); rintro e w4 ⟨rfl, hb⟩; have RB : RR.Rw w #[.int .i64 2, .int .i64 (rd hs 1), .int .i64 (rd hs 2), .int .i64 (rd hs 3), .slice none 0 0, .int .i64 0, .int .i64 0, .slice A7 k c7, .int .i64 (rd ps 10)] w4 := (KB3.out.put 8 _).below hb; have KB4 := Aside0.mk RB; have HR4 := Aside0.mk (Kd.R_below (RR.spR HR.out KB3.out.c _) hb); obtain ⟨W0, W1, W2, W3, W4, W5, W6, W7, W8⟩ := cells9 RB.c; clear RB hb)
              | (refine wpList_store_row rfl 25 _ _ rfl w.heap.size #[.int .i64 0, .int .i64 0, .int .i64 0, .int .i64 0, .slice none 0 0, .int .i64 0, .int .i64 0, .slice none 0 0, .int .i64 0] rfl rfl 25 #[.int .i64 0, .int .i64 0, .int .i64 0, .int .i64 0, .slice none 0 0, .int .i64 0, .int .i64 0, .slice none 0 0, .int .i64 0] KB4.out.res RR.info25 rfl (by kernel_rfl) ?_))
            refine bodyPost_ret (results_ct rfl _ _ w.heap.size 25 #[.int .i64 0, .int .i64 0, .int .i64 0, .int .i64 0, .slice none 0 0, .int .i64 0, .int .i64 0, .slice none 0 0, .int .i64 0] (0, 0) _ rfl (setRow_heap _ _ _ _ _ _ KB4.out.res) Try.underlying25 rfl RR.info25) rfl ?_
            exact HNB.out (fun h => HT.out h.2) _ _ ⟨_, _, rfl, Kd.R_nil _ _ _ _ _, Kd.R_nil _ _ _ _ _, below_setRow KB4.out.bel (Nat.le_refl _) _⟩
        · have e0 : (e2 == 0) = false := beq_eq_false_iff_ne.mpr he
          have e1 : (e2 != 0) = true := bne_iff_ne.mpr he
          have HT := Aside0.mk he
          clear he
          go_wp2_with (first
            | (go_at_call 10; (with_reducible refine (CW2.out _ _ _ ?cc hc7).out.mono ?_); (case cc => exact RR.spC HR.out RR.len_k KB3.out.c _); rintro e w4 ⟨rfl, hb⟩; have RB : RR.Rw w #[.int .i64 2, .int .i64 (rd hs 1), .int .i64 (rd hs 2), .int .i64 (rd hs 3), .slice none 0 0, .int .i64 0, .int .i64 0, .slice A7 k c7, .int .i64 (rd ps 10)] w4 := (KB3.out.put 8 _).below hb; have KB4 := Aside0.mk RB; have HR4 := Aside0.mk (Kd.R_below (RR.spR HR.out KB3.out.c _) hb); obtain ⟨W0, W1, W2, W3, W4, W5, W6, W7, W8⟩ := cells9 RB.c; clear RB hb)
            | (refine wpList_store_row rfl 25 _ _ rfl w.heap.size #[.int .i64 0, .int .i64 0, .int .i64 0, .int .i64 0, .slice none 0 0, .int .i64 0, .int .i64 0, .slice none 0 0, .int .i64 0] rfl rfl 25 #[.int .i64 0, .int .i64 0, .int .i64 0, .int .i64 0, .slice none 0 0, .int .i64 0, .int .i64 0, .slice none 0 0, .int .i64 0] KB4.out.res RR.info25 rfl (by kernel_rfl) ?_))
          refine bodyPost_ret (results_ct rfl _ _ w.heap.size 25 #[.int .i64 0, .int .i64 0, .int .i64 0, .int .i64 0, .slice none 0 0, .int .i64 0, .int .i64 0, .slice none 0 0, .int .i64 0] (0, 0) _ rfl (setRow_heap _ _ _ _ _ _ KB4.out.res) Try.underlying25 rfl RR.info25) rfl ?_
          exact HNB.out (fun h => HT.out h.1) _ _ ⟨_, _, rfl, Kd.R_nil _ _ _ _ _, Kd.R_nil _ _ _ _ _, below_setRow KB4.out.bel (Nat.le_refl _) _⟩
end Go.Proofs.Ytgigoogekimgkaa.GCrd
