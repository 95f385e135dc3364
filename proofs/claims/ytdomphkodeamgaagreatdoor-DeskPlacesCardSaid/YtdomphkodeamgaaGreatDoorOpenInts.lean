/- What a law's argument of the type of rows of numbers holds. Conditions: none. -/
import Derived.Test.YtdomphkodeamgaaGreatDoorDeskLaw
import Derived.ChangeSlices
import Derived.Deep.Slices
import Derived.Lib.SmallJoins
import Derived.WideShapes
import Derived.OpenShut
import Derived.SizedLaws
import Derived.KernelRfl
namespace Go.Proofs.YtdomphkodeamgaaGreatDoor.Opens
open Go.ChangeShapes Go.WideShapes Go.Deep Go.RowKit
set_option maxRecDepth 100000
theorem cellsInt : Tryz.prog.cellsOf 3 = 1 := by kernel_rfl
section
variable {H : Type} {enc : TypeId × Value → H} {w : World} {base : Nat} {held : Bool}
theorem row_ints {fuel : Nat} {v : Value} {x : DataW H × List MemPlace} (h : DataW.trod enc Tryz.prog w base (fun _ => true) held fuel 22 [v] = some x) :
    ∃ (A : Option Addr) (c : Nat) (l : List Int), v = .slice A l.length c ∧ l.length ≤ c ∧ l.length ≤ 9223372036854775807 ∧ DeskP.IRow w A l := by
  rcases open_ints Tryz.underlying22 Tryz.underlying3 cellsInt h with ⟨hc, _⟩ | ⟨a, len, cap, zs, hc, _, hl, hm, hz, _, hcell, _⟩
  · obtain rfl : v = .slice none 0 0 := by simpa using hc
    exact ⟨none, 0, [], rfl, Nat.le_refl _, by simp, fun j x hj => by simp at hj⟩
  · obtain rfl : v = .slice (some a) len cap := by simpa using hc
    have hlz : len ≤ zs.length := by rw [hz]; split <;> omega
    have e : (zs.take len).length = len := by rw [List.length_take]; omega
    refine ⟨some a, cap, zs.take len, by rw [e], by rw [e]; exact hl, by rw [e]; unfold maxLen at hm; omega, fun j p hp => ?_⟩
    have hj : j < len := by have := (List.getElem?_eq_some_iff.1 hp).1; rw [e] at this; exact this
    have h0 := hcell 0 (by omega)
    have hs : a.spot = none := by
      have := World.cell?_spot h0
      simpa [Addr.add] using this
    obtain ⟨b, o, s⟩ := a
    obtain rfl : s = none := hs
    refine ⟨b, o, rfl, ?_⟩
    have hc := hcell j (by omega)
    rw [Addr.add_lit, List.getD_eq_getElem?_getD] at hc
    rw [List.getElem?_take_of_lt hj] at hp
    rw [hc, hp]
    rfl
end
end Go.Proofs.YtdomphkodeamgaaGreatDoor.Opens
