/- What a law's argument of the type of rows of nodes holds: nodes, each of five cells. Conditions: none. -/
import Derived.Test.YtgeckikdpipabaaGreatDoorProg
import Derived.Test.YtgeckikdpipabaaGreatDoorNodes
import Derived.ChangeSlices
import Derived.Deep.Slices
import Derived.Lib.SmallJoins
import Derived.WideShapes
import Derived.OpenShut
import Derived.SizedLaws
import Derived.KernelRfl
namespace Go.Proofs.YtgeckikdpipabaaGreatDoor.Opens
open Go.ChangeShapes Go.WideShapes Go.Deep Go.RowKit Go.Cns
set_option maxRecDepth 100000
theorem cellsNode : Tryz.prog.cellsOf 28 = 5 := by kernel_rfl
theorem cellsInt : Tryz.prog.cellsOf 3 = 1 := by kernel_rfl
theorem cellsStr : Tryz.prog.cellsOf 9 = 1 := by kernel_rfl
theorem cellsNames : Tryz.prog.cellsOf 26 = 1 := by kernel_rfl
section
variable {H : Type} {enc : TypeId × Value → H} {w : World} {base : Nat} {spare : Nat → Bool} {held : Bool}
theorem one_node {fuel : Nat} {cs : List Value} {x : DataW H × List MemPlace} (h : DataW.trod enc Tryz.prog w base spare held fuel 28 cs = some x) :
    ∃ n : Nd, cs = n.cells := by
  obtain ⟨xs, q, _, _, hcs, hlen, hf⟩ := DataW.trod_struct Tryz.underlying28 h
  rw [cellsNode] at hcs
  match cs, hcs with
  | [c0, c1, c2, c3, c4], _ =>
    match xs, hlen with
    | [y0, y1, y2, y3, y4], _ =>
      have g0 : DataW.trod enc Tryz.prog w base spare held q 3 (List.take (Tryz.prog.cellsOf 3) (List.drop 0 [c0, c1, c2, c3, c4])) = some y0 := hf 0 _ rfl
      have g1 : DataW.trod enc Tryz.prog w base spare held q 3 (List.take (Tryz.prog.cellsOf 3) (List.drop 1 [c0, c1, c2, c3, c4])) = some y1 := hf 1 _ rfl
      have g2 : DataW.trod enc Tryz.prog w base spare held q 3 (List.take (Tryz.prog.cellsOf 3) (List.drop 2 [c0, c1, c2, c3, c4])) = some y2 := hf 2 _ rfl
      have g3 : DataW.trod enc Tryz.prog w base spare held q 9 (List.take (Tryz.prog.cellsOf 9) (List.drop 3 [c0, c1, c2, c3, c4])) = some y3 := hf 3 _ rfl
      have g4 : DataW.trod enc Tryz.prog w base spare held q 26 (List.take (Tryz.prog.cellsOf 26) (List.drop 4 [c0, c1, c2, c3, c4])) = some y4 := hf 4 _ rfl
      rw [cellsInt] at g0 g1 g2
      rw [cellsStr] at g3
      rw [cellsNames] at g4
      obtain ⟨n0, e0, _⟩ := DataW.trod_int Tryz.underlying3 (show DataW.trod enc Tryz.prog w base spare held q 3 [c0] = some y0 from g0)
      obtain ⟨n1, e1, _⟩ := DataW.trod_int Tryz.underlying3 (show DataW.trod enc Tryz.prog w base spare held q 3 [c1] = some y1 from g1)
      obtain ⟨n2, e2, _⟩ := DataW.trod_int Tryz.underlying3 (show DataW.trod enc Tryz.prog w base spare held q 3 [c2] = some y2 from g2)
      obtain ⟨s3, e3, _⟩ := DataW.trod_string Tryz.underlying9 (show DataW.trod enc Tryz.prog w base spare held q 9 [c3] = some y3 from g3)
      obtain rfl : c0 = .int .i64 n0 := by simpa using e0
      obtain rfl : c1 = .int .i64 n1 := by simpa using e1
      obtain rfl : c2 = .int .i64 n2 := by simpa using e2
      obtain rfl : c3 = .string s3 := by simpa using e3
      rcases open_slice Tryz.underlying26 (show DataW.trod enc Tryz.prog w base spare held q 26 [c4] = some y4 from g4) with ⟨e4, _⟩ | ⟨a, len, cap, _, _, _, _, e4, _⟩
      · obtain rfl : c4 = .slice none 0 0 := by simpa using e4
        exact ⟨⟨n0, n1, n2, s3, none, 0, 0⟩, rfl⟩
      · obtain rfl : c4 = .slice (some a) len cap := by simpa using e4
        exact ⟨⟨n0, n1, n2, s3, some a, len, cap⟩, rfl⟩
theorem row_nodes {fuel : Nat} {v : Value} {x : DataW H × List MemPlace} (h : DataW.trod enc Tryz.prog w base spare held fuel 22 [v] = some x) :
    ∃ (A : Option Addr) (c : Nat) (L : List Nd), v = .slice A L.length c ∧ L.length ≤ c ∧ (A = none → c = 0) ∧ NRow w A L ∧ (∃ es sp, (x.1 = .slice es sp ∧ L.length ≤ es.length) ∨ L = []) := by
  rcases open_slice Tryz.underlying22 h with ⟨hc, _⟩ | ⟨a, len, cap, m, n, D, Pl, hc, _, hl, hm, hmm, hxx, hx⟩
  · obtain rfl : v = .slice none 0 0 := by simpa using hc
    exact ⟨none, 0, [], rfl, Nat.le_refl _, fun _ => rfl, fun j x hj => by simp at hj, [], [], Or.inr rfl⟩
  · obtain rfl : v = .slice (some a) len cap := by simpa using hc
    have hlm : len ≤ m := by rw [hmm]; split <;> omega
    rw [cellsNode] at hx
    obtain ⟨V, hV⟩ := choose_lt (α := Nd) (n := len) (p := fun i s => w.cells? base (a.add (i * 5)) 5 = some s.cells) (fun i hi => by
      obtain ⟨cs', h1, h2⟩ := hx i (by omega)
      obtain ⟨s, rfl⟩ := one_node h2
      exact ⟨s, h1⟩)
    have e : ((List.range len).map V).length = len := by simp
    refine ⟨some a, cap, (List.range len).map V, by rw [e], by rw [e]; exact hl, fun h => (by cases h), fun j p hp => ?_, _, _, Or.inl ⟨congrArg Prod.fst hxx, by rw [e]; simp⟩⟩
    have hj : j < len := by have := (List.getElem?_eq_some_iff.1 hp).1; rw [e] at this; exact this
    obtain rfl : V j = p := by
      rw [List.getElem?_map, List.getElem?_range hj] at hp
      simpa using hp
    have h0 := (World.cells?_some (hV 0 (by omega))).2.2 0 (by omega)
    have hs : a.spot = none := by
      have := World.cell?_spot (v := .int .i64 (V 0).id) h0
      simpa [Addr.add] using this
    obtain ⟨b, o, s⟩ := a
    obtain rfl : s = none := hs
    refine ⟨b, o, rfl, fun i u hu => ?_⟩
    have hi5 : i < 5 := by have := (List.getElem?_eq_some_iff.1 hu).1; simpa [Nd.cells] using this
    have hc := (World.cells?_some (hV j hj)).2.2 i hi5
    rw [hu, Addr.add_lit, Addr.add_lit] at hc
    exact hc
end
end Go.Proofs.YtgeckikdpipabaaGreatDoor.Opens
