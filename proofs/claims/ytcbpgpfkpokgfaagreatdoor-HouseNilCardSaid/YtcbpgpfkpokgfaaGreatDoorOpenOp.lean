/- What a law's argument of the type of operations (numbers, texts, a row of truths) holds. Conditions: none. -/
import Derived.Test.YtcbpgpfkpokgfaaGreatDoorProg
import Derived.ChangeSlices
import Derived.Deep.Slices
import Derived.Lib.SmallJoins
import Derived.WideShapes
import Derived.OpenShut
import Derived.SizedLaws
import Derived.KernelRfl
namespace Go.Proofs.YtcbpgpfkpokgfaaGreatDoor.Opens
open Go.ChangeShapes Go.WideShapes Go.Deep Go.RowKit
set_option maxRecDepth 100000
theorem array7 {α : Type} {cs : Array α} (h : cs.size = 7) : ∃ c0 c1 c2 c3 c4 c5 c6, cs = #[c0, c1, c2, c3, c4, c5, c6] := by
  obtain ⟨l⟩ := cs
  match l, h with
  | [c0, c1, c2, c3, c4, c5, c6], _ => exact ⟨c0, c1, c2, c3, c4, c5, c6, rfl⟩
theorem cellsOp : Tryz.prog.cellsOf 24 = 7 := by kernel_rfl
theorem typesOp : Tryz.prog.cellTypes Tryz.prog.depth 24 = some [3, 9, 9, 9, 3, 3, 22] := by kernel_rfl
theorem cell_slice {w : World} {r : Reach} {b : Nat} {v : Value} (h : Cell.okWide Tryz.prog w r b 22 v) :
    v = .slice none 0 0 ∨ ∃ k o l c, v = .slice (some ⟨k, o, none⟩) l c := by
  simp only [Cell.okWide, Tryz.underlying22, Cell.ok] at h
  cases v <;> simp_all
  rename_i a l c
  cases a with
  | none => left; cases l <;> cases c <;> simp_all
  | some a =>
    right
    obtain ⟨k, o, s⟩ := a
    simp only [World.has] at h
    exact ⟨k, o, by simp_all⟩
theorem op {w : World} {r : Reach} {b0 : Nat} {v : Value} (hv : Value.okWide Tryz.prog w r b0 24 v) :
    ∃ (k : Int) (p q d : ByteArray) (at' n : Int) (S : Value), v = .agg #[.int .i64 k, .string p, .string q, .string d, .int .i64 at', .int .i64 n, S] ∧
      (S = .slice none 0 0 ∨ ∃ k o l c, S = .slice (some ⟨k, o, none⟩) l c) := by
  have hs := hv
  obtain ⟨cs, rfl, hsz⟩ := okWide_struct Tryz.underlying24 hs
  simp only [Value.okWide, Tryz.underlying24] at hv
  obtain ⟨cs', e, _, ts, hts, _, hc⟩ := hv
  obtain rfl : cs = cs' := by simpa using e
  rw [typesOp] at hts
  obtain rfl := Option.some.inj hts
  obtain ⟨c0, c1, c2, c3, c4, c5, c6, rfl⟩ := array7 (hsz.trans cellsOp)
  obtain ⟨u0, e0, h0⟩ := hc 0 c0 rfl
  obtain ⟨u1, e1, h1⟩ := hc 1 c1 rfl
  obtain ⟨u2, e2, h2⟩ := hc 2 c2 rfl
  obtain ⟨u3, e3, h3⟩ := hc 3 c3 rfl
  obtain ⟨u4, e4, h4⟩ := hc 4 c4 rfl
  obtain ⟨u5, e5, h5⟩ := hc 5 c5 rfl
  obtain ⟨u6, e6, h6⟩ := hc 6 c6 rfl
  obtain rfl : 3 = u0 := Option.some.inj e0
  obtain rfl : 9 = u1 := Option.some.inj e1
  obtain rfl : 9 = u2 := Option.some.inj e2
  obtain rfl : 9 = u3 := Option.some.inj e3
  obtain rfl : 3 = u4 := Option.some.inj e4
  obtain rfl : 3 = u5 := Option.some.inj e5
  obtain rfl : 22 = u6 := Option.some.inj e6
  obtain ⟨k, rfl⟩ := okWide_int Tryz.underlying3 (show Value.okWide Tryz.prog w r b0 3 c0 by simpa only [Value.okWide, Tryz.underlying3] using h0)
  obtain ⟨p, rfl⟩ := okWide_string Tryz.underlying9 (show Value.okWide Tryz.prog w r b0 9 c1 by simpa only [Value.okWide, Tryz.underlying9] using h1)
  obtain ⟨q, rfl⟩ := okWide_string Tryz.underlying9 (show Value.okWide Tryz.prog w r b0 9 c2 by simpa only [Value.okWide, Tryz.underlying9] using h2)
  obtain ⟨d, rfl⟩ := okWide_string Tryz.underlying9 (show Value.okWide Tryz.prog w r b0 9 c3 by simpa only [Value.okWide, Tryz.underlying9] using h3)
  obtain ⟨a, rfl⟩ := okWide_int Tryz.underlying3 (show Value.okWide Tryz.prog w r b0 3 c4 by simpa only [Value.okWide, Tryz.underlying3] using h4)
  obtain ⟨n, rfl⟩ := okWide_int Tryz.underlying3 (show Value.okWide Tryz.prog w r b0 3 c5 by simpa only [Value.okWide, Tryz.underlying3] using h5)
  exact ⟨k, p, q, d, a, n, c6, rfl, cell_slice h6⟩
end Go.Proofs.YtcbpgpfkpokgfaaGreatDoor.Opens
