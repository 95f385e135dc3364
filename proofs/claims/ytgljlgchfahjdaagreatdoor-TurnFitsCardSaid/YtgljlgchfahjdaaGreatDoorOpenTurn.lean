/- What a law's arguments of the types of cards, of rows of numbers, of pairs of numbers hold. Conditions: none. -/
import Derived.Test.YtgljlgchfahjdaaGreatDoorFits
import Derived.ChangeSlices
import Derived.Deep.Slices
import Derived.Lib.SmallJoins
import Derived.WideShapes
import Derived.OpenShut
import Derived.SizedLaws
import Derived.KernelRfl
namespace Go.Proofs.YtgljlgchfahjdaaGreatDoor.Opens
open Go.ChangeShapes Go.WideShapes Go.Deep Go.RowKit
set_option maxRecDepth 100000
theorem array9 {α : Type} {cs : Array α} (h : cs.size = 9) : ∃ c0 c1 c2 c3 c4 c5 c6 c7 c8, cs = #[c0, c1, c2, c3, c4, c5, c6, c7, c8] := by
  obtain ⟨l⟩ := cs
  match l, h with
  | [c0, c1, c2, c3, c4, c5, c6, c7, c8], _ => exact ⟨c0, c1, c2, c3, c4, c5, c6, c7, c8, rfl⟩
theorem array2 {α : Type} {cs : Array α} (h : cs.size = 2) : ∃ c0 c1, cs = #[c0, c1] := by
  obtain ⟨l⟩ := cs
  match l, h with
  | [c0, c1], _ => exact ⟨c0, c1, rfl⟩
theorem cellsCard : Tryz.prog.cellsOf 25 = 9 := by kernel_rfl
theorem typesCard : Tryz.prog.cellTypes Tryz.prog.depth 25 = some [3, 3, 3, 3, 22, 3, 3, 23, 3] := by kernel_rfl
theorem cellsPair : Tryz.prog.cellsOf 26 = 2 := by kernel_rfl
theorem typesPair : Tryz.prog.cellTypes Tryz.prog.depth 26 = some [3, 3] := by kernel_rfl
theorem cellsInt : Tryz.prog.cellsOf 3 = 1 := by kernel_rfl
theorem cell_int {w : World} {r : Reach} {b : Nat} {v : Value} (h : Cell.okWide Tryz.prog w r b 3 v) : ∃ n, v = .int .i64 n :=
  okWide_int Tryz.underlying3 (show Value.okWide Tryz.prog w r b 3 v by simpa only [Value.okWide, Tryz.underlying3] using h)
theorem cell_ints {w : World} {r : Reach} {b : Nat} {v : Value} (h : Cell.okWide Tryz.prog w r b 22 v) : ∃ a l c, v = .slice a l c :=
  okWide_slice Tryz.underlying22 (show Value.okWide Tryz.prog w r b 22 v by simpa only [Value.okWide, Tryz.underlying22] using h)
theorem cell_spans {w : World} {r : Reach} {b : Nat} {v : Value} (h : Cell.okWide Tryz.prog w r b 23 v) : ∃ a l c, v = .slice a l c :=
  okWide_slice Tryz.underlying23 (show Value.okWide Tryz.prog w r b 23 v by simpa only [Value.okWide, Tryz.underlying23] using h)
theorem card {w : World} {r : Reach} {b0 : Nat} {v : Value} (hv : Value.okWide Tryz.prog w r b0 25 v) :
    ∃ (a0 a1 a2 a3 a5 a6 a8 : Int) (A4 : Option Addr) (l4 c4 : Nat) (A7 : Option Addr) (l7 c7 : Nat),
      v = .agg #[.int .i64 a0, .int .i64 a1, .int .i64 a2, .int .i64 a3, .slice A4 l4 c4, .int .i64 a5, .int .i64 a6, .slice A7 l7 c7, .int .i64 a8] := by
  have hs := hv
  obtain ⟨cs, rfl, hsz⟩ := okWide_struct Tryz.underlying25 hs
  simp only [Value.okWide, Tryz.underlying25] at hv
  obtain ⟨cs', e, _, ts, hts, _, hc⟩ := hv
  obtain rfl : cs = cs' := by simpa using e
  rw [typesCard] at hts
  obtain rfl := Option.some.inj hts
  obtain ⟨c0, c1, c2, c3, c4, c5, c6, c7, c8, rfl⟩ := array9 (hsz.trans cellsCard)
  obtain ⟨u0, e0, h0⟩ := hc 0 c0 rfl
  obtain ⟨u1, e1, h1⟩ := hc 1 c1 rfl
  obtain ⟨u2, e2, h2⟩ := hc 2 c2 rfl
  obtain ⟨u3, e3, h3⟩ := hc 3 c3 rfl
  obtain ⟨u4, e4, h4⟩ := hc 4 c4 rfl
  obtain ⟨u5, e5, h5⟩ := hc 5 c5 rfl
  obtain ⟨u6, e6, h6⟩ := hc 6 c6 rfl
  obtain ⟨u7, e7, h7⟩ := hc 7 c7 rfl
  obtain ⟨u8, e8, h8⟩ := hc 8 c8 rfl
  obtain rfl : 3 = u0 := Option.some.inj e0
  obtain rfl : 3 = u1 := Option.some.inj e1
  obtain rfl : 3 = u2 := Option.some.inj e2
  obtain rfl : 3 = u3 := Option.some.inj e3
  obtain rfl : 22 = u4 := Option.some.inj e4
  obtain rfl : 3 = u5 := Option.some.inj e5
  obtain rfl : 3 = u6 := Option.some.inj e6
  obtain rfl : 23 = u7 := Option.some.inj e7
  obtain rfl : 3 = u8 := Option.some.inj e8
  obtain ⟨a0, rfl⟩ := cell_int h0
  obtain ⟨a1, rfl⟩ := cell_int h1
  obtain ⟨a2, rfl⟩ := cell_int h2
  obtain ⟨a3, rfl⟩ := cell_int h3
  obtain ⟨A4, l4, k4, rfl⟩ := cell_ints h4
  obtain ⟨a5, rfl⟩ := cell_int h5
  obtain ⟨a6, rfl⟩ := cell_int h6
  obtain ⟨A7, l7, k7, rfl⟩ := cell_spans h7
  obtain ⟨a8, rfl⟩ := cell_int h8
  exact ⟨a0, a1, a2, a3, a5, a6, a8, A4, l4, k4, A7, l7, k7, rfl⟩
theorem okWide_array {t : TypeId} {n : Nat} {e : TypeId} {w : World} {r : Reach} {b : Nat} {v : Value} (ht : Tryz.prog.underlying t = some (.array n e)) (hv : Value.okWide Tryz.prog w r b t v) :
    ∃ cs, v = .agg cs ∧ cs.size = Tryz.prog.cellsOf t ∧ Row.okWide Tryz.prog w r b t cs := by
  simpa only [Value.okWide, ht] using hv
theorem pair {w : World} {r : Reach} {b0 : Nat} {v : Value} (hv : Value.okWide Tryz.prog w r b0 26 v) : ∃ a0 a1 : Int, v = .agg #[.int .i64 a0, .int .i64 a1] := by
  obtain ⟨cs, rfl, hsz, ts, hts, _, hc⟩ := okWide_array Tryz.underlying26 hv
  rw [typesPair] at hts
  obtain rfl := Option.some.inj hts
  obtain ⟨c0, c1, rfl⟩ := array2 (hsz.trans cellsPair)
  obtain ⟨u0, e0, h0⟩ := hc 0 c0 rfl
  obtain ⟨u1, e1, h1⟩ := hc 1 c1 rfl
  obtain rfl : 3 = u0 := Option.some.inj e0
  obtain rfl : 3 = u1 := Option.some.inj e1
  obtain ⟨a0, rfl⟩ := cell_int h0
  obtain ⟨a1, rfl⟩ := cell_int h1
  exact ⟨a0, a1, rfl⟩
section
variable {H : Type} {enc : TypeId × Value → H} {w : World} {base : Nat} {held : Bool}
theorem row_ints {fuel : Nat} {v : Value} {x : DataW H × List MemPlace} (h : DataW.trod enc Tryz.prog w base (fun _ => true) held fuel 22 [v] = some x) :
    ∃ (A : Option Addr) (c : Nat) (l : List Int), v = .slice A l.length c ∧ l.length ≤ c ∧ l.length ≤ 9223372036854775807 ∧ Fits.IRow w A l := by
  rcases open_ints Tryz.underlying22 Tryz.underlying3 cellsInt h with ⟨hc, _⟩ | ⟨a, len, cap, zs, hc, _, hl, hm, hz, _, hcell, _⟩
  · obtain rfl : v = .slice none 0 0 := by simpa using hc
    exact ⟨none, 0, [], rfl, Nat.le_refl _, by simp, fun j x hj => by simp at hj⟩
  · obtain rfl : v = .slice (some a) len cap := by simpa using hc
    have hlz : len ≤ zs.length := by rw [hz]; split <;> omega
    have e : (zs.take len).length = len := by rw [List.length_take]; omega
    refine ⟨some a, cap, zs.take len, by rw [e], by rw [e]; exact hl, by rw [e]; unfold maxLen at hm; omega, fun j p hp => ?_⟩
    have hj : j < len := by have := (List.getElem?_eq_some_iff.1 hp).1; rw [e] at this; exact this
    have h0 := hcell 0 (by omega)
    have hs : a.spot = none := by
      have := World.cell?_spot h0
      simpa [Addr.add] using this
    obtain ⟨b, o, s⟩ := a
    obtain rfl : s = none := hs
    refine ⟨b, o, rfl, ?_⟩
    have hc := hcell j (by omega)
    rw [Addr.add_lit, List.getD_eq_getElem?_getD] at hc
    rw [List.getElem?_take_of_lt hj] at hp
    rw [hc, hp]
    rfl
end
end Go.Proofs.YtgljlgchfahjdaaGreatDoor.Opens
