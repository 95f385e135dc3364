/- Words of this session's own for printed walks: a slice made with room ahead (make([]T, 0, n)).
   Conditions: as the theorems state them. -/
import Derived.Test.YtgigoogekimgkaaV
import Derived.Lib.ConvBytes
import Derived.Lib.TrimByte
namespace Go.Proofs.YtgigoogekimgkaaW.PrintWords
open Go.RowKit
namespace Kd
section
variable {P : Program} {ops : Array Oper} {rest : List Oper} {o : Oper} {a : Act} {Q : Exit → Act → World → Prop} {α : Type} {W : World}
/-- make([]T, 0, n): an empty row of one's own with room. -/
theorem R_makecap (d : Kd α) {w0 W : World} (base e : Nat) (hgd : o.guard = none) {N : Tmp} (_hd : o.dst = some N) (t : TypeId) (x y : Operand) (ho : o.op = .makeSlice t x y) (n : Int) (hx : a.eval x = .int .i64 0) (hy : a.eval y = .int .i64 n)
    (ht : P.underlying t = some (.slice e)) (z : Value) (bytes : Nat) (hinfo : (P.info? e).map (fun i => (i.zero, i.size, i.bytes)) = some (some z, d.sz, bytes)) (_hz : z.cells.size = d.sz) (_hs0 : 0 < d.sz) (hb0 : 0 < bytes)
    (z0 : α) {ok okp : Nat → Prop} (_hzero : d.M W base okp z0 z.cells.toList) (_hok : ∀ k, okp k → ok k) (hfresh : ok W.heap.size) (h0 : 0 ≤ n) (hl : n.toNat * bytes ≤ 281474976710656) (HB : Below base w0 W) (hbase : base ≤ W.heap.size)
    (h : ∀ v1 w1, d.R e w1 base ok v1 ([] : List α) → Below base w0 w1 → W.grownBy w1 none → (∃ b, v1.ownBlock = some b ∧ W.heap.size ≤ b) → wpList P ops Q rest (a.put o.dst v1) w1) : wpList P ops Q (o :: rest) a W := by
  obtain ⟨m, rfl⟩ := Int.eq_ofNat_of_zero_le h0
  simp only [Int.toNat_natCast] at hl
  obtain ⟨i0, hi, hzz⟩ := Option.map_eq_some_iff.1 hinfo
  simp only [Prod.mk.injEq] at hzz
  obtain ⟨hz0, hz1, hz2⟩ := hzz
  have hm : m ≤ 281474976710656 := Nat.le_trans (Nat.le_mul_of_pos_right _ hb0) hl
  have hr := run_make (P := P) W t e i0 z ht hi hz0 .i64 .i64 0 (m : Int) (by omega) (by omega)
    (by
      have h3 : ((i0.bytes * m : Nat) : Int) ≤ 281474976710656 := by rw [hz2, Nat.mul_comm]; omega
      rwa [Int.natCast_mul] at h3) (by omega)
  simp only [Int.toNat_natCast] at hr
  rw [hz1] at hr
  have hrun : (execOp a.eval o).run P W = .ok (.value (.slice (some ⟨W.heap.size, 0, none⟩) 0 m)) (W.alloc (.cells (madeCells z.cells (m * d.sz)) e)) := by
    simp [execOp, ho, hx, hy, hr]
  refine event_run hgd hrun (h _ _ ⟨fun k hk => ?_, [], ⟨by simp, ?_⟩, Reps.none _ _⟩ (HB.alloc hbase _) (World.grownBy_alloc W _ none) ⟨W.heap.size, by simp [Value.ownBlock], Nat.le_refl _⟩)
  · have : W.heap.size = k := by simpa [Value.ownBlock] using hk
    subst this
    exact hfresh
  · exact .inr ⟨W.heap.size, m, _, rfl, hbase, heap_alloc_new W _, Nat.zero_le _, by unfold maxLen; omega, by simp [size_madeCells], by simp⟩
end
end Kd
theorem gw_ne (l : List UInt8) : Value.bool (!l.isEmpty) = .bool (l != ([] : List UInt8)) := by cases l <;> rfl
theorem gw_eq (l : List UInt8) : Value.bool l.isEmpty = .bool (l == ([] : List UInt8)) := by cases l <;> rfl
/-- A row of strings that is read, not empty: its cells, one by one. -/
theorem kd_cells {w : World} {A : Option Addr} {l : List ByteArray} (h : Kd.C Kd.string w A l.length l) (h0 : 0 < l.length) :
    ∃ bk o : Nat, A = some ⟨bk, o, none⟩ ∧ bk < w.heap.size ∧ ∀ (j : Nat) x, l[j]? = some x → w.cell? ⟨bk, o + j, none⟩ = some (.string x) := by
  obtain ⟨ad, rfl, hc⟩ := h.2.2 h0
  have key : ∀ (j : Nat) x, l[j]? = some x → w.cell? (ad.add j) = some (.string x) := by
    intro j x hj
    obtain ⟨c, _, hK, hcc⟩ := hc j x hj
    have hK' : c = [.string x] := hK
    have := hcc 0 (.string x) (by rw [hK']; rfl)
    rwa [show j * Kd.string.sz + 0 = j by show j * 1 + 0 = j; omega] at this
  have h1 := key 0 l[0] (List.getElem?_eq_getElem h0)
  rw [show ad.add 0 = ad by simp [Addr.add]] at h1
  obtain ⟨bk, o, sp⟩ := ad
  have hs : sp = none := by
    cases sp with
    | none => rfl
    | some z => simp [World.cell?] at h1; split at h1 <;> simp at h1
  subst hs
  refine ⟨bk, o, rfl, ?_, fun j x hj => ?_⟩
  · rcases Nat.lt_or_ge bk w.heap.size with hlt | hge
    · exact hlt
    · simp [World.cell?, Array.getElem?_eq_none hge] at h1
  · have := key j x hj
    rwa [show (⟨bk, o, none⟩ : Addr).add j = ⟨bk, o + j, none⟩ by unfold Addr.add; split <;> simp_all] at this
/-- What a conversion of a string to bytes comes to, told as a call is told. -/
def ConvCalls (P : Program) (src dst : TypeId) (s : ByteArray) (w : World) (R : Ending → World → Prop) : Prop :=
  ∃ e w', R e w' ∧ ∃ v, e = .returned v ∧ (convert src dst (.string s)).run P w = .ok v w'
theorem ConvCalls.mono {P : Program} {src dst : TypeId} {s : ByteArray} {w : World} {R R' : Ending → World → Prop} (h : ConvCalls P src dst s w R) (hr : ∀ e w', R e w' → R' e w') : ConvCalls P src dst s w R' := by
  obtain ⟨e, w', r, z⟩ := h
  exact ⟨e, w', hr _ _ r, z⟩
section
variable {P : Program} {ops : Array Oper} {rest : List Oper} {o : Oper} {a : Act} {Q : Exit → Act → World → Prop} {W : World}
theorem goesConv (N : Option Tmp) (hd : o.dst = N) (hg : o.guard = none) (src dst : TypeId) (x : Operand) (ho : o.op = .convert src dst x) (s : ByteArray) (hx : a.eval x = .string s)
    (h : ConvCalls P src dst s W fun e w' => ∃ v, e = .returned v ∧ wpList P ops Q rest (a.put N v) w') : wpList P ops Q (o :: rest) a W := by
  obtain ⟨e, w', ⟨v, rfl, hk⟩, v', he, hrun⟩ := h
  injection he with he
  subst he
  subst hd
  refine Kd.event_run hg ?_ hk
  simp [execOp, ho, hx, hrun]
end
theorem below_bytesWorld (w : World) (e : TypeId) (s : ByteArray) : Below w.heap.size w (Lib.bytesWorld w e s) :=
  ⟨rfl, rfl, rfl, by rw [Lib.bytesWorld_size]; omega, fun k hk => Lib.bytesWorld_at_old w e s k hk⟩
theorem bytesWorld_C (w : World) (e : TypeId) (s : ByteArray) (hs : s.size ≤ 9223372036854775807) (W' : World) (hW : W'.heap[w.heap.size]? = (Lib.bytesWorld w e s).heap[w.heap.size]?) :
    (Kd.int .u8).C W' (some ⟨w.heap.size, 0, none⟩) s.size (bytesOf s) := by
  refine ⟨bytesOf_length s, hs, fun _ => ⟨_, rfl, fun j p hj => ?_⟩⟩
  obtain ⟨hjl, hp⟩ := List.getElem?_eq_some_iff.1 hj
  rw [bytesOf_length] at hjl
  refine ⟨[.int .u8 p], rfl, rfl, fun i u hu => ?_⟩
  obtain ⟨rfl, rfl⟩ : i = 0 ∧ Value.int .u8 p = u := by
    cases i with
    | zero => exact ⟨rfl, by simpa using hu⟩
    | succ i => simp at hu
  have hc := Lib.bytesWorld_cell w e s j hjl
  have ha : (⟨w.heap.size, 0, none⟩ : Addr).add (j * (Kd.int .u8).sz + 0) = ⟨w.heap.size, j, none⟩ := by
    show (⟨w.heap.size, 0, none⟩ : Addr).add (j * 1 + 0) = _
    unfold Addr.add; split <;> simp_all
  rw [ha]
  have : W'.cell? ⟨w.heap.size, j, none⟩ = (Lib.bytesWorld w e s).cell? ⟨w.heap.size, j, none⟩ := by
    unfold World.cell?
    rw [hW]
  rw [this, hc, ← hp]
  simp [bytesOf, List.getD, hjl]
/-- A conversion opened: the new row's cells, for one that writes it. -/
theorem conv_open {P : Program} (w : World) (src dst e : TypeId) (s : ByteArray) {u : TypeDesc} (hs : P.underlying src = some u) (hd : P.underlying dst = some (.slice e)) (he : P.underlying e = some (.int .u8)) :
    ConvCalls P src dst s w fun e' w' => ∃ c : Nat, e' = .returned (.slice (some ⟨w.heap.size, 0, none⟩) s.size c) ∧ (∀ j : Nat, j < s.size → w'.cell? ⟨w.heap.size, j, none⟩ = some (.int .u8 (bt s j))) ∧ (∀ j : Nat, j < s.size → w'.frozen? ⟨w.heap.size, j, none⟩ = false) ∧ w'.heap.size = w.heap.size + 1 ∧ Below w.heap.size w w' := by
  refine ⟨_, _, ⟨grownCap w s.size 0 e, rfl, fun j hj => ?_, fun j hj => ?_, Lib.bytesWorld_size w e s, below_bytesWorld w e s⟩, _, rfl, Lib.run_convert_string_bytes w src dst e s hs hd he⟩
  · rw [Lib.bytesWorld_cell w e s j hj, ← rd_bytesOf, rd]
    simp [bytesOf, List.getD, hj]
  · unfold World.frozen?
    rw [Lib.bytesWorld_at_new]
    have : s.size ≤ (Lib.bytesCells w e s).size := by simp [Lib.bytesCells]
    simp
    omega
theorem bytes_conv {P : Program} (w : World) (src dst e : TypeId) (s : ByteArray) (hs : P.underlying src = some .string) (hd : P.underlying dst = some (.slice e)) (he : P.underlying e = some (.int .u8)) (hl : s.size ≤ 9223372036854775807) :
    ConvCalls P src dst s w fun e' w' => ∃ v0_ : Value, e' = .returned v0_ ∧ Kd.V (Kd.int .u8) e w' w.heap.size (fun k_ => w.heap.size ≤ k_) v0_ (bytesOf s) ∧ Below w.heap.size w w' := by
  refine ⟨_, _, ⟨_, rfl, ?_, below_bytesWorld w e s⟩, _, rfl, Lib.run_convert_string_bytes w src dst e s hs hd he⟩
  refine ⟨some ⟨w.heap.size, 0, none⟩, grownCap w s.size 0 e, by rw [bytesOf_length], by rw [bytesOf_length]; exact grownCap_ge w s.size 0 e, fun W' hW => ?_⟩
  rw [bytesOf_length]
  refine bytesWorld_C w e s hl W' (hW _ (Nat.le_refl _) ?_)
  rw [Lib.bytesWorld_size]
  omega
end Go.Proofs.YtgigoogekimgkaaW.PrintWords
