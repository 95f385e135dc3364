/- The places that ref28.Match can come to, part after part: the plain law, and the rows that hold them. Conditions: as the theorems state them. -/
import Derived.Test.YtefomcoimbnalaaDoorGlQ
import Derived.Deep.OwnRows
namespace Go.Proofs.YtefomcoimbnalaaDoor.Gw
open Go Go.RowKit Go.Gl Go.Proofs.YtefomcoimbnalaaDoor.Plain
set_option maxRecDepth 100000
def bcells (N : Nat) (g : Nat → Bool) : Array Value := ((List.range (N + 1)).map fun i => Value.bool (g i)).toArray
theorem bcells_size (N : Nat) (g : Nat → Bool) : (bcells N g).size = N + 1 := by simp [bcells]
theorem bcells_at (N : Nat) (g : Nat → Bool) (c : Nat) (h : c ≤ N) : (bcells N g)[c]? = some (.bool (g c)) := by
  simp [bcells, Nat.lt_succ_of_le h]
theorem bcells_set (N : Nat) (g : Nat → Bool) (c : Nat) (v : Bool) : (bcells N g).setIfInBounds c (.bool v) = bcells N (fun j => if j = c then v else g j) := by
  apply Array.ext'
  simp only [bcells, Array.toList_setIfInBounds]
  apply List.ext_getElem?
  intro j
  rw [List.getElem?_set]
  by_cases hj : j < N + 1
  · by_cases hc : c = j
    · subst hc; simp [hj]
    · simp [hj, hc, Ne.symm hc]
  · simp [hj]
    try (intro e; omega)
theorem bcells_made (N : Nat) : madeCells #[Value.bool false] (N + 1) = bcells N fun _ => false := by
  apply Array.ext'
  rw [toList_madeCells_one]
  simp [bcells, List.map_const']
theorem bcells_congr {N : Nat} {g g' : Nat → Bool} (e : ∀ c, c ≤ N → g c = g' c) : bcells N g = bcells N g' := by
  unfold bcells
  congr 1
  exact List.map_congr_left fun c hc => by rw [e c (Nat.le_of_lt_succ (List.mem_range.1 hc))]
/-- the row of places that can be come to -/
structure One (W : World) (N cb : Nat) (g : Nat → Bool) (u : World) : Prop where
  come : u.heap[cb]? = some (.cells (bcells N g) 4 (0, 0))
  bel : Below W.heap.size W u
  ge : W.heap.size ≤ cb
/-- .. and the row that is being made -/
structure Two (W : World) (N cb nb : Nat) (g h : Nat → Bool) (u : World) : Prop where
  come : u.heap[cb]? = some (.cells (bcells N g) 4 (0, 0))
  next : u.heap[nb]? = some (.cells (bcells N h) 4 (0, 0))
  bel : Below W.heap.size W u
  ge : W.heap.size ≤ nb
  ne : cb ≠ nb
theorem One.made {W u : World} {N : Nat} (hb : Below W.heap.size W u) : One W N u.heap.size (fun _ => false) (u.alloc (.cells (bcells N fun _ => false) 4)) :=
  ⟨heap_alloc_new _ _, hb.alloc hb.size _, hb.size⟩
theorem One.made2 {W u : World} {N : Nat} (hb : Below W.heap.size W u) : One W N u.heap.size (fun j => if j = 0 then true else false) (u.alloc (.cells ((bcells N fun _ => false).setIfInBounds 0 (.bool true)) 4)) :=
  ⟨by rw [bcells_set]; exact heap_alloc_new _ _, hb.alloc hb.size _, hb.size⟩
theorem One.put {W u : World} {N cb : Nat} {g : Nat → Bool} (h : One W N cb g u) (c : Nat) (v : Bool) : One W N cb (fun j => if j = c then v else g j) (u.setCell ⟨cb, c, none⟩ (.bool v)) :=
  ⟨by rw [heap_setCell_same u cb c (bcells N g) 4 (.bool v) h.come, bcells_set], set_below h.bel h.ge, h.ge⟩
theorem One.two {W u : World} {N cb : Nat} {g : Nat → Bool} (h : One W N cb g u) : Two W N cb u.heap.size g (fun _ => false) (u.alloc (.cells (bcells N fun _ => false) 4)) :=
  have hl : cb < u.heap.size := (Array.getElem?_eq_some_iff.1 h.come).1
  ⟨(heap_alloc_old _ _ hl).trans h.come, heap_alloc_new _ _, h.bel.alloc h.bel.size _, h.bel.size, Nat.ne_of_lt hl⟩
theorem One.cell {W u : World} {N cb : Nat} {g : Nat → Bool} (h : One W N cb g u) (c : Nat) (hc : c ≤ N) : u.cell? ⟨cb, c, none⟩ = some (.bool (g c)) := by
  rw [cell_of_row _ _ _ _ _ _ h.come, bcells_at N g c hc]
section
variable {W u : World} {N cb nb : Nat} {g h : Nat → Bool}
theorem Two.one (t : Two W N cb nb g h u) : One W N nb h u := ⟨t.next, t.bel, t.ge⟩
theorem Two.put (t : Two W N cb nb g h u) (c : Nat) (v : Bool) : Two W N cb nb g (fun j => if j = c then v else h j) (u.setCell ⟨nb, c, none⟩ (.bool v)) :=
  ⟨by rw [heap_setCell_other u _ _ _ t.ne]; exact t.come, by rw [heap_setCell_same u nb c (bcells N h) 4 (.bool v) t.next, bcells_set], set_below t.bel t.ge, t.ge, t.ne⟩
theorem Two.congr {h' : Nat → Bool} (t : Two W N cb nb g h u) (e : ∀ c, c ≤ N → h c = h' c) : Two W N cb nb g h' u := ⟨t.come, by rw [t.next, bcells_congr e], t.bel, t.ge, t.ne⟩
theorem Two.cell (t : Two W N cb nb g h u) (c : Nat) (hc : c ≤ N) : u.cell? ⟨cb, c, none⟩ = some (.bool (g c)) := by
  rw [cell_of_row _ _ _ _ _ _ t.come, bcells_at N g c hc]
theorem Two.cell2 (t : Two W N cb nb g h u) (c : Nat) (hc : c ≤ N) : u.cell? ⟨nb, c, none⟩ = some (.bool (h c)) := by
  rw [cell_of_row _ _ _ _ _ _ t.next, bcells_at N h c hc]
theorem Two.below {u2 : World} (t : Two W N cb nb g h u) (hb : Below u.heap.size u u2) : Two W N cb nb g h u2 :=
  ⟨by rw [hb.block cb (Array.getElem?_eq_some_iff.1 t.come).1]; exact t.come, by rw [hb.block nb (Array.getElem?_eq_some_iff.1 t.next).1]; exact t.next, t.bel.trans (hb.mono t.bel.size), t.ge, t.ne⟩
theorem Two.free (t : Two W N cb nb g h u) (c : Nat) : u.frozen? ⟨nb, c, none⟩ = false := frozen_of_row u _ _ _ _ t.next
end
/-! ### The law -/
/-- from place k a part leads to place j -/
def relS (st : Bool) (on : Nat → Bool) (k j : Nat) : Bool := if st then decide (k ≤ j) else decide (j = k + 1) && on k
def goS (st : Bool) (on : Nat → Bool) (g : Nat → Bool) (k j : Nat) : Bool := (List.range k).any fun i => g i && relS st on i j
theorem goS_zero (st : Bool) (on g : Nat → Bool) (j : Nat) : goS st on g 0 j = false := rfl
theorem goS_succ (st : Bool) (on g : Nat → Bool) (k j : Nat) : goS st on g (k + 1) j = (goS st on g k j || (g k && relS st on k j)) := by
  simp [goS, List.range_succ, List.any_append]
theorem goS_iff (st : Bool) (on g : Nat → Bool) (k j : Nat) : goS st on g k j = true ↔ ∃ i, i < k ∧ g i = true ∧ relS st on i j = true := by
  simp [goS, List.any_eq_true, List.mem_range]
def onN (n : List UInt8) (p : List UInt8) (k : Nat) : Bool := match n[k]? with | some c => onS p c | none => false
theorem go_law (p : List UInt8) (L : List (List UInt8)) (n : List UInt8) (g : Nat → Bool) :
    (∃ k, k ≤ n.length ∧ g k = true ∧ M stS onS (p :: L) (n.drop k)) ↔ ∃ j, j ≤ n.length ∧ goS (stS p) (onN n p) g (n.length + 1) j = true ∧ M stS onS L (n.drop j) := by
  cases hp : stS p with
  | true =>
    constructor
    · rintro ⟨k, hk, hg, hM⟩
      obtain ⟨j, hj, hM⟩ := (M_star stS onS hp).1 hM
      rw [List.length_drop] at hj
      rw [List.drop_drop] at hM
      exact ⟨k + j, by omega, (goS_iff _ _ _ _ _).2 ⟨k, by omega, hg, by rw [relS, if_pos rfl]; exact decide_eq_true (by omega)⟩, hM⟩
    · rintro ⟨j, hj, hg, hM⟩
      obtain ⟨k, hk, hg, hr⟩ := (goS_iff _ _ _ _ _).1 hg
      rw [relS, if_pos rfl] at hr
      have hr := of_decide_eq_true hr
      exact ⟨k, by omega, hg, (M_star stS onS hp).2 ⟨j - k, by rw [List.length_drop]; omega, by rw [List.drop_drop, show k + (j - k) = j by omega]; exact hM⟩⟩
  | false =>
    constructor
    · rintro ⟨k, hk, hg, hM⟩
      obtain ⟨c, cs, e, ho, hM⟩ := (M_one stS onS hp).1 hM
      have hkl : k < n.length := by
        have := congrArg List.length e
        rw [List.length_drop, List.length_cons] at this
        omega
      rw [List.drop_eq_getElem_cons hkl] at e
      obtain ⟨rfl, rfl⟩ := List.cons.inj e
      refine ⟨k + 1, hkl, (goS_iff _ _ _ _ _).2 ⟨k, by omega, hg, ?_⟩, hM⟩
      rw [relS, if_neg (by decide), decide_eq_true rfl, Bool.true_and]
      unfold onN
      rw [List.getElem?_eq_getElem hkl]
      exact ho
    · rintro ⟨j, hj, hg0, hM⟩
      obtain ⟨k, hk, hg, hr⟩ := (goS_iff _ _ _ _ _).1 hg0
      clear hg0
      rw [relS, if_neg (by decide), Bool.and_eq_true] at hr
      obtain ⟨hr, ho⟩ := hr
      obtain rfl := of_decide_eq_true hr
      have hkl : k < n.length := hj
      unfold onN at ho
      rw [List.getElem?_eq_getElem hkl] at ho
      exact ⟨k, hk |> Nat.le_of_lt_succ, hg, (M_one stS onS hp).2 ⟨n[k], n.drop (k + 1), List.drop_eq_getElem_cons hkl, ho, hM⟩⟩
theorem go_end (n : List UInt8) (g : Nat → Bool) : (∃ k, k ≤ n.length ∧ g k = true ∧ M stS onS [] (n.drop k)) ↔ g n.length = true := by
  constructor
  · rintro ⟨k, hk, hg, hM⟩
    rw [M] at hM
    have := congrArg List.length hM
    rw [List.length_drop, List.length_nil] at this
    rwa [show k = n.length by omega] at hg
  · intro h
    exact ⟨n.length, Nat.le_refl _, h, by rw [M, List.drop_length]⟩
theorem pc_on {p : List UInt8} (h : stS p = false) (c : UInt8) : pc p c.toNat = onS p c := by
  unfold pc
  rw [h, show c.toNat.toUInt8 = c by simp [Nat.toUInt8]]
  rfl
/-! ### The parts' cells -/
theorem pcl_len (p : List UInt8) : (pcl p).length = 257 := by
  unfold pcl
  rw [Array.length_toList, pcells_size]
theorem flat_at : ∀ (ps : List (List UInt8)) (i : Nat) (p : List UInt8) (c : Nat), ps[i]? = some p → c < 257 → (ps.flatMap pcl)[i * 257 + c]? = (pcl p)[c]?
  | [], i, p, c, h, _ => by simp at h
  | q :: ps, 0, p, c, h, hc => by
    obtain rfl : q = p := by simpa using h
    rw [List.flatMap_cons, List.getElem?_append_left (by rw [pcl_len]; omega), Nat.zero_mul, Nat.zero_add]
  | q :: ps, i + 1, p, c, h, hc => by
    rw [List.flatMap_cons, List.getElem?_append_right (by rw [pcl_len]; omega), pcl_len, show (i + 1) * 257 + c - 257 = i * 257 + c by omega]
    exact flat_at ps i p c (by simpa using h) hc
/-- the parts in a row of cells -/
def PRow (w : World) (A : Option Addr) (L : List (List UInt8)) : Prop := ∀ (i : Nat) (p : List UInt8), L[i]? = some p → ∃ b : Nat, A = some ⟨b, 0, none⟩ ∧ w.cell? ⟨b, i * 257, none⟩ = some (.bool (stS p)) ∧ ∀ c, c < 256 → w.cell? ⟨b, i * 257 + 1 + c, none⟩ = some (.bool (pc p c))
theorem prow_below {w wx : World} (hb : Below w.heap.size w wx) {A : Option Addr} {L : List (List UInt8)} (h : PRow w A L) : PRow wx A L := by
  intro i p hi
  obtain ⟨b, e, h1, h2⟩ := h i p hi
  exact ⟨b, e, cell_below hb h1, fun c hc => cell_below hb (h2 c hc)⟩
theorem own_prow {w : World} {B : Nat} {v : Value} {L : List (List UInt8)} (h : w.ownsRow B 36 257 v L.length (L.flatMap pcl)) : ∃ A c, v = .slice A L.length c ∧ PRow w A L := by
  rcases h.2 with ⟨rfl, hn⟩ | ⟨g, cap, cur, rfl, _, _, hle, _⟩
  · have : L = [] := List.eq_nil_of_length_eq_zero hn
    subst this
    exact ⟨none, 0, rfl, fun i p hi => by simp at hi⟩
  · refine ⟨some ⟨g, 0, none⟩, cap, rfl, fun i p hi => ⟨g, rfl, ?_, fun c hc => ?_⟩⟩
    · have := h.cells (g := g) rfl (i * 257) (.bool (stS p)) (by rw [← Nat.add_zero (i * 257), flat_at L i p 0 hi (by decide)]; rfl)
      rwa [Addr.add_lit, Nat.zero_add] at this
    · have := h.cells (g := g) rfl (i * 257 + (1 + c)) (.bool (pc p c)) (by
        rw [flat_at L i p (1 + c) hi (by omega)]
        unfold pcl
        rw [Array.getElem?_toList]
        exact pcells_at _ _ c hc)
      rwa [Addr.add_lit, Nat.zero_add, ← Nat.add_assoc] at this
def R2Post (l : Option (List (List UInt8))) (e : Ending) (w' : World) : Prop := match l with
  | none => e = .returned (.tuple #[.slice none 0 0, .bool false])
  | some ps => ∃ A c, e = .returned (.tuple #[.slice A ps.length c, .bool true]) ∧ PRow w' A ps
theorem rparts2_calls (x : ByteArray) (hs : x.size ≤ 1000) (w : World) : Calls Tryd.prog 8 #[.string x] w fun e w' => R2Post (partsS x.data.toList) e w' ∧ Below w.heap.size w w' :=
  (rparts_calls x hs w).mono fun e w' ⟨hq, hb⟩ => by
    refine ⟨?_, hb⟩
    cases hp : partsS x.data.toList with
    | none => rw [hp] at hq; exact hq
    | some ps =>
      rw [hp] at hq
      obtain ⟨v, rfl, ho⟩ := hq
      obtain ⟨A, c, rfl, hr⟩ := own_prow ho
      exact ⟨A, c, rfl, hr⟩
theorem infoB : (Tryd.prog.info? 4).map (fun i => (i.zero, i.size, i.bytes)) = some (some (.bool false), 1, 1) := by kernel_rfl
theorem wpList_makeB {ops : Array Oper} {rest : List Oper} {o : Oper} {a : Act} {w : World} {Q : Exit → Act → World → Prop} (hg : o.guard = none) (l c : Operand) (hop : o.op = Op.makeSlice 41 l c)
    (N : Nat) (hN : N ≤ 1000) (hl : a.eval l = .int .i64 ((N : Int) + 1)) (hc : a.eval c = .int .i64 ((N : Int) + 1))
    (hK : wpList Tryd.prog ops Q rest (a.put o.dst (.slice (some ⟨w.heap.size, 0, none⟩) (N + 1) (N + 1))) (w.alloc (.cells (bcells N fun _ => false) 4))) : wpList Tryd.prog ops Q (o :: rest) a w := by
  obtain ⟨i, hi, hz, hsz, hby⟩ := info_parts infoB
  refine wpList_make_row w hg l c 41 hop 4 i (.bool false) Tryd.underlying41 hi hz hsz rfl .i64 .i64 (N + 1) (by rw [hl]; rfl) (by rw [hc]; rfl) (by rw [hby]; omega) (by omega) ?_
  rw [bcells_made]
  exact hK
end Go.Proofs.YtefomcoimbnalaaDoor.Gw
