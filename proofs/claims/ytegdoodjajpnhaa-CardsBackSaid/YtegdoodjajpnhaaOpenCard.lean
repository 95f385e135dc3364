/- What a law's argument of the type of cards (numbers, a row of numbers, a row of spans) holds. Conditions: none. -/
import Derived.Test.YtegdoodjajpnhaaGCbkx0
import Derived.ChangeSlices
import Derived.Deep.Slices
import Derived.Lib.SmallJoins
import Derived.WideShapes
import Derived.OpenShut
import Derived.SizedLaws
import Derived.Test.YtegdoodjajpnhaaV
namespace Go.Proofs.Ytegdoodjajpnhaa.Opens
open Go.ChangeShapes Go.WideShapes Go.Deep Go.RowKit Go.Proofs.Ytegdoodjajpnhaa.GCbk Go.Proofs.YtegdoodjajpnhaaW.PrintWords
theorem array9 {α : Type} {cs : Array α} (h : cs.size = 9) : ∃ c0 c1 c2 c3 c4 c5 c6 c7 c8, cs = #[c0, c1, c2, c3, c4, c5, c6, c7, c8] := by
  obtain ⟨l⟩ := cs
  match l, h with
  | [c0, c1, c2, c3, c4, c5, c6, c7, c8], _ => exact ⟨c0, c1, c2, c3, c4, c5, c6, c7, c8, rfl⟩
theorem cellsCard : Try.prog.cellsOf 25 = 9 := by kernel_rfl
theorem cellsSpan : Try.prog.cellsOf 48 = 3 := by kernel_rfl
theorem cellsPair : Try.prog.cellsOf 36 = 2 := by kernel_rfl
theorem cellsInt : Try.prog.cellsOf 3 = 1 := by kernel_rfl
theorem cellsInts : Try.prog.cellsOf 22 = 1 := by kernel_rfl
theorem cellsSpans : Try.prog.cellsOf 23 = 1 := by kernel_rfl
section
variable {H : Type} {enc : TypeId × Value → H} {w : World} {base : Nat} {spare : Nat → Bool} {held : Bool}
theorem row_ints {fuel : Nat} {v : Value} {x : DataW H × List MemPlace} (h : DataW.trod enc Try.prog w base spare held fuel 22 [v] = some x) :
    ∃ (A : Option Addr) (c : Nat) (l : List Int), v = .slice A l.length c ∧ Kd.C (Kd.int .i64) w A l.length l ∧ l.length ≤ c := by
  rcases open_ints Try.underlying22 Try.underlying3 cellsInt h with ⟨hc, _⟩ | ⟨a, len, cap, zs, hc, _, hl, hm, hz, _, hcell, _⟩
  · obtain rfl : v = .slice none 0 0 := by simpa using hc
    exact ⟨none, 0, [], rfl, ⟨rfl, by simp, fun h => absurd h (by simp)⟩, Nat.le_refl _⟩
  · obtain rfl : v = .slice (some a) len cap := by simpa using hc
    have hlz : len ≤ zs.length := by rw [hz]; split <;> omega
    have e : (zs.take len).length = len := by rw [List.length_take]; omega
    refine ⟨some a, cap, zs.take len, by rw [e], ⟨rfl, ?_, fun _ => ⟨a, rfl, fun j p hp => ⟨[.int .i64 p], rfl, rfl, fun i u hu => ?_⟩⟩⟩, by rw [e]; exact hl⟩
    · rw [e]; unfold maxLen at hm; omega
    · have hj : j < len := by have := (List.getElem?_eq_some_iff.1 hp).1; rw [e] at this; exact this
      cases i with
      | succ i => simp at hu
      | zero =>
        obtain rfl : Value.int .i64 p = u := by simpa using hu
        rw [show j * Kd.sz (Kd.int .i64) + 0 = j from by show j * 1 + 0 = j; omega, hcell j (by omega), List.getD_eq_getElem?_getD]
        rw [List.getElem?_take_of_lt hj] at hp
        rw [hp]
        rfl
instance : Inhabited S48 := ⟨z48⟩
theorem row_spans {fuel : Nat} {v : Value} {x : DataW H × List MemPlace} (h : DataW.trod enc Try.prog w base spare held fuel 23 [v] = some x) :
    ∃ (A : Option Addr) (c : Nat) (l : List S48), v = .slice A l.length c ∧ Kd.C k48 w A l.length l ∧ l.length ≤ c := by
  rcases open_slice Try.underlying23 h with ⟨hc, _⟩ | ⟨a, len, cap, m, n, D, Pl, hc, _, hl, hm, hmm, _, hx⟩
  · obtain rfl : v = .slice none 0 0 := by simpa using hc
    exact ⟨none, 0, [], rfl, ⟨rfl, by simp, fun h => absurd h (by simp)⟩, Nat.le_refl _⟩
  · obtain rfl : v = .slice (some a) len cap := by simpa using hc
    have hlm : len ≤ m := by rw [hmm]; split <;> omega
    rw [cellsSpan] at hx
    obtain ⟨V, hV⟩ := choose_lt (α := S48) (n := len) (p := fun i s => w.cells? base (a.add (i * 3)) 3 = some [.int .i64 s.f0, .int .i64 s.f1, .int .i64 s.f2]) (fun i hi => by
      obtain ⟨cs', h1, h2⟩ := hx i (by omega)
      obtain ⟨xs, q, _, _, hcs, _, hf⟩ := DataW.trod_struct Try.underlying48 h2
      rw [cellsSpan] at hcs
      match cs', hcs with
      | [c0, c1, c2], _ =>
        have hx : xs.length = 3 := by assumption
        match xs, hx with
        | [y0, y1, y2], _ =>
          have g0 : DataW.trod enc Try.prog w base spare held q 3 (List.take (Try.prog.cellsOf 3) (List.drop 0 [c0, c1, c2])) = some y0 := hf 0 _ rfl
          have g1 : DataW.trod enc Try.prog w base spare held q 3 (List.take (Try.prog.cellsOf 3) (List.drop 1 [c0, c1, c2])) = some y1 := hf 1 _ rfl
          have g2 : DataW.trod enc Try.prog w base spare held q 3 (List.take (Try.prog.cellsOf 3) (List.drop 2 [c0, c1, c2])) = some y2 := hf 2 _ rfl
          rw [cellsInt] at g0 g1 g2
          obtain ⟨n0, e0, _⟩ := DataW.trod_int Try.underlying3 (show DataW.trod enc Try.prog w base spare held q 3 [c0] = some y0 from g0)
          obtain ⟨n1, e1, _⟩ := DataW.trod_int Try.underlying3 (show DataW.trod enc Try.prog w base spare held q 3 [c1] = some y1 from g1)
          obtain ⟨n2, e2, _⟩ := DataW.trod_int Try.underlying3 (show DataW.trod enc Try.prog w base spare held q 3 [c2] = some y2 from g2)
          obtain rfl : c0 = .int .i64 n0 := by simpa using e0
          obtain rfl : c1 = .int .i64 n1 := by simpa using e1
          obtain rfl : c2 = .int .i64 n2 := by simpa using e2
          exact ⟨⟨n0, n1, n2⟩, h1⟩)
    have e : ((List.range len).map V).length = len := by simp
    refine ⟨some a, cap, (List.range len).map V, by rw [e], ⟨rfl, ?_, fun _ => ⟨a, rfl, fun j p hp => ?_⟩⟩, by rw [e]; exact hl⟩
    · rw [e]; unfold maxLen at hm; omega
    · have hj : j < len := by have := (List.getElem?_eq_some_iff.1 hp).1; rw [e] at this; exact this
      obtain rfl : V j = p := by
        rw [List.getElem?_map, List.getElem?_range hj] at hp
        simpa using hp
      refine ⟨_, rfl, k48_mk w (V j), fun i u hu => ?_⟩
      have hi3 : i < 3 := by have := (List.getElem?_eq_some_iff.1 hu).1; simpa using this
      have hc := (World.cells?_some (hV j hj)).2.2 i hi3
      rw [hu] at hc
      have ea : (a.add (j * 3)).add i = a.add (j * 3 + i) := Go.Deep.add_add _ _ _
      rw [← hc, ea]
      rfl
theorem card {r : Reach} {b0 : Nat} {v : Value} {d : DataW H} {p : List MemPlace} (hv : Value.okWide Try.prog w r b0 25 v) (h : DataW.Trod enc Try.prog w base spare held 25 v d p) :
    ∃ (a0 a1 a2 a3 : Int) (A4 : Option Addr) (c4 : Nat) (l4 : List Int) (a5 a6 : Int) (A7 : Option Addr) (c7 : Nat) (l7 : List S48) (a8 : Int),
      v = .agg #[.int .i64 a0, .int .i64 a1, .int .i64 a2, .int .i64 a3, .slice A4 l4.length c4, .int .i64 a5, .int .i64 a6, .slice A7 l7.length c7, .int .i64 a8] ∧
      Kd.C (Kd.int .i64) w A4 l4.length l4 ∧ l4.length ≤ c4 ∧ Kd.C k48 w A7 l7.length l7 ∧ l7.length ≤ c7 := by
  obtain ⟨cs, rfl, hsz⟩ := okWide_struct Try.underlying25 hv
  obtain ⟨c0, c1, c2, c3, c4, c5, c6, c7, c8, rfl⟩ := array9 (hsz.trans cellsCard)
  obtain ⟨fuel, hf⟩ := h
  obtain ⟨xs, n, _, _, _, hlen, hg⟩ := DataW.trod_struct Try.underlying25 hf
  match xs, hlen with
  | [y0, y1, y2, y3, y4, y5, y6, y7, y8], _ =>
    have g0 : DataW.trod enc Try.prog w base spare held n 3 (List.take (Try.prog.cellsOf 3) (List.drop 0 (Value.agg #[c0, c1, c2, c3, c4, c5, c6, c7, c8]).cells.toList)) = some y0 := hg 0 _ rfl
    have g1 : DataW.trod enc Try.prog w base spare held n 3 (List.take (Try.prog.cellsOf 3) (List.drop 1 (Value.agg #[c0, c1, c2, c3, c4, c5, c6, c7, c8]).cells.toList)) = some y1 := hg 1 _ rfl
    have g2 : DataW.trod enc Try.prog w base spare held n 3 (List.take (Try.prog.cellsOf 3) (List.drop 2 (Value.agg #[c0, c1, c2, c3, c4, c5, c6, c7, c8]).cells.toList)) = some y2 := hg 2 _ rfl
    have g3 : DataW.trod enc Try.prog w base spare held n 3 (List.take (Try.prog.cellsOf 3) (List.drop 3 (Value.agg #[c0, c1, c2, c3, c4, c5, c6, c7, c8]).cells.toList)) = some y3 := hg 3 _ rfl
    have g4 : DataW.trod enc Try.prog w base spare held n 22 (List.take (Try.prog.cellsOf 22) (List.drop 4 (Value.agg #[c0, c1, c2, c3, c4, c5, c6, c7, c8]).cells.toList)) = some y4 := hg 4 _ rfl
    have g5 : DataW.trod enc Try.prog w base spare held n 3 (List.take (Try.prog.cellsOf 3) (List.drop 5 (Value.agg #[c0, c1, c2, c3, c4, c5, c6, c7, c8]).cells.toList)) = some y5 := hg 5 _ rfl
    have g6 : DataW.trod enc Try.prog w base spare held n 3 (List.take (Try.prog.cellsOf 3) (List.drop 6 (Value.agg #[c0, c1, c2, c3, c4, c5, c6, c7, c8]).cells.toList)) = some y6 := hg 6 _ rfl
    have g7 : DataW.trod enc Try.prog w base spare held n 23 (List.take (Try.prog.cellsOf 23) (List.drop 7 (Value.agg #[c0, c1, c2, c3, c4, c5, c6, c7, c8]).cells.toList)) = some y7 := hg 7 _ rfl
    have g8 : DataW.trod enc Try.prog w base spare held n 3 (List.take (Try.prog.cellsOf 3) (List.drop 8 (Value.agg #[c0, c1, c2, c3, c4, c5, c6, c7, c8]).cells.toList)) = some y8 := hg 8 _ rfl
    rw [cellsInt] at g0 g1 g2 g3 g5 g6 g8
    rw [cellsInts] at g4
    rw [cellsSpans] at g7
    obtain ⟨n0, e0, _⟩ := DataW.trod_int Try.underlying3 (show DataW.trod enc Try.prog w base spare held n 3 [c0] = some y0 from g0)
    obtain ⟨n1, e1, _⟩ := DataW.trod_int Try.underlying3 (show DataW.trod enc Try.prog w base spare held n 3 [c1] = some y1 from g1)
    obtain ⟨n2, e2, _⟩ := DataW.trod_int Try.underlying3 (show DataW.trod enc Try.prog w base spare held n 3 [c2] = some y2 from g2)
    obtain ⟨n3, e3, _⟩ := DataW.trod_int Try.underlying3 (show DataW.trod enc Try.prog w base spare held n 3 [c3] = some y3 from g3)
    obtain ⟨n5, e5, _⟩ := DataW.trod_int Try.underlying3 (show DataW.trod enc Try.prog w base spare held n 3 [c5] = some y5 from g5)
    obtain ⟨n6, e6, _⟩ := DataW.trod_int Try.underlying3 (show DataW.trod enc Try.prog w base spare held n 3 [c6] = some y6 from g6)
    obtain ⟨n8, e8, _⟩ := DataW.trod_int Try.underlying3 (show DataW.trod enc Try.prog w base spare held n 3 [c8] = some y8 from g8)
    obtain ⟨A4, k4, l4, rfl, h4, i4⟩ := row_ints (show DataW.trod enc Try.prog w base spare held n 22 [c4] = some y4 from g4)
    obtain ⟨A7, k7, l7, rfl, h7, i7⟩ := row_spans (show DataW.trod enc Try.prog w base spare held n 23 [c7] = some y7 from g7)
    obtain rfl : c0 = .int .i64 n0 := by simpa using e0
    obtain rfl : c1 = .int .i64 n1 := by simpa using e1
    obtain rfl : c2 = .int .i64 n2 := by simpa using e2
    obtain rfl : c3 = .int .i64 n3 := by simpa using e3
    obtain rfl : c5 = .int .i64 n5 := by simpa using e5
    obtain rfl : c6 = .int .i64 n6 := by simpa using e6
    obtain rfl : c8 = .int .i64 n8 := by simpa using e8
    exact ⟨n0, n1, n2, n3, A4, k4, l4, n5, n6, A7, k7, l7, n8, rfl, h4, i4, h7, i7⟩
/-- A card's row of numbers is no longer than its weight allows. -/
theorem card_len {ts : List TypeId} {ds : List (DataW H)} {j : Nat} {d : DataW H} {p : List MemPlace} {c0 c1 c2 c3 c5 c6 c7 c8 : Value} {A : Option Addr} {len cap : Nat}
    (hsz : (DataW.weightsEach Try.prog ts ds).all (· ≤ reachBytes) = true) (ht : ts[j]? = some 25) (hd : ds[j]? = some d) (h : DataW.Trod enc Try.prog w base spare held 25 (.agg #[c0, c1, c2, c3, .slice A len cap, c5, c6, c7, c8]) d p) : len + 3 < 17592186044416 := by
  obtain ⟨fuel, hf⟩ := h
  obtain ⟨xs, n, _, hx, _, hlen, hg⟩ := DataW.trod_struct Try.underlying25 hf
  obtain ⟨rfl, _⟩ := Prod.mk.inj hx
  match xs, hlen with
  | [y0, y1, y2, y3, y4, y5, y6, y7, y8], _ =>
    have g4 : DataW.trod enc Try.prog w base spare held n 22 (List.take (Try.prog.cellsOf 22) (List.drop 4 (Value.agg #[c0, c1, c2, c3, .slice A len cap, c5, c6, c7, c8]).cells.toList)) = some y4 := hg 4 _ rfl
    rw [cellsInts] at g4
    have hw := List.all_eq_true.2 (fun n hn => List.all_eq_true.1 hsz n (DataW.weights_mem_each ht hd n (by
      unfold DataW.weights
      rw [Try.underlying25]
      exact hn)))
    have := sized_ints (P := Try.prog) (j := 4) (a := A) (cap := cap) (B := 8) hw rfl rfl Try.underlying22 Try.underlying3 cellsInt (by kernel_rfl) (show DataW.Trod enc Try.prog w base spare held 22 (.slice A len cap) y4.1 y4.2 from ⟨n, g4⟩)
    omega
theorem pair {r : Reach} {b0 : Nat} {v : Value} {d : DataW H} {p : List MemPlace} (hv : Value.okWide Try.prog w r b0 36 v) (h : DataW.Trod enc Try.prog w base spare held 36 v d p) :
    ∃ (x y : Int), v = .agg #[.int .i64 x, .int .i64 y] := by
  have hu := Try.underlying36
  simp only [Value.okWide, hu] at hv
  obtain ⟨cs, rfl, hsz, _⟩ := hv
  obtain ⟨l⟩ := cs
  have hl : l.length = 2 := hsz.trans cellsPair
  match l, hl with
  | [c0, c1], _ =>
    obtain ⟨fuel, hf⟩ := h
    obtain ⟨xs, m, _, _, _, hlen, hg⟩ := DataW.trod_array hu hf
    match xs, hlen with
    | [y0, y1], _ =>
      have g0 := hg 0 (by omega)
      have g1 := hg 1 (by omega)
      rw [cellsInt] at g0 g1
      obtain ⟨n0, e0, _⟩ := DataW.trod_int Try.underlying3 (show DataW.trod enc Try.prog w base spare held m 3 [c0] = some y0 from g0)
      obtain ⟨n1, e1, _⟩ := DataW.trod_int Try.underlying3 (show DataW.trod enc Try.prog w base spare held m 3 [c1] = some y1 from g1)
      obtain rfl : c0 = .int .i64 n0 := by simpa using e0
      obtain rfl : c1 = .int .i64 n1 := by simpa using e1
      exact ⟨n0, n1, rfl⟩
end
end Go.Proofs.Ytegdoodjajpnhaa.Opens
