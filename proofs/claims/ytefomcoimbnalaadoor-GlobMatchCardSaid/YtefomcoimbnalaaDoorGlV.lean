/- The walk of the law GlobMatch: which patterns may be, and for which names they stand, is what the document says. Conditions: as the theorems state them. -/
import Derived.Test.YtefomcoimbnalaaDoorGlO
import Derived.Test.YtefomcoimbnalaaDoorGGlbx4
namespace Go.Proofs.YtefomcoimbnalaaDoor.Pure
open Go Go.RowKit Go.Gl Go.Proofs.YtefomcoimbnalaaDoor.Gw Go.Proofs.YtefomcoimbnalaaDoor.GGlb
open Go.Proofs.YtefomcoimbnalaaDoorW.PrintWords (mn)
set_option maxRecDepth 100000
set_option maxHeartbeats 16000000
theorem lives_true : wainwrightlaw28_lives.f 60 = some true := by kernel_rfl
theorem lives_calls (w : World) : Calls Tryd.prog 6 #[] w fun e w' => e = .returned (.bool true) ∧ Below w.heap.size w w' := wainwrightlaw28_lives.calls 60 true w lives_true
theorem early_some (x : ByteArray) : ∃ y, wainwrightlaw28_early.f x = some y ∧ y.size ≤ 1000 := by
  have hm : mn (x.size : Int) 100 = ((min x.size 100 : Nat) : Int) := by unfold mn; split <;> omega
  refine ⟨x.extract 0 (min x.size 100), ?_, by rw [ByteArray.size_extract]; omega⟩
  unfold wainwrightlaw28_early.f
  rw [hm, if_pos (by omega), if_pos (by omega), Int.toNat_natCast]
theorem early_calls (x : ByteArray) : ∃ y : ByteArray, y.size ≤ 1000 ∧ ∀ w : World, Calls Tryd.prog 7 #[.string x] w fun e w' => e = .returned (.string y) ∧ Below w.heap.size w w' := by
  obtain ⟨y, h, hs⟩ := early_some x
  exact ⟨y, hs, fun w => wainwrightlaw28_early.calls x y w h⟩
theorem b_drew {w u : World} {B : Nat} (h : Below B w u) : Below B w u.drew := below_drew h
theorem b_below {w u u2 : World} (hb : Below u.heap.size u u2) (h : Below w.heap.size w u) : Below w.heap.size w u2 := h.trans (hb.mono h.size)
theorem GlobMatch_walk (a0 a1 : ByteArray) (w : World) (_w0 : a0.size ≤ 140737488351232) (_w1 : a1.size ≤ 140737488351232) :
    Calls Tryd.prog 3 #[.string a0, .string a1] w fun e w' => e = .returned (.bool true) ∧ Below w.heap.size w w' := by
  have CL := fun W : World => Aside0.mk (lives_calls W)
  obtain ⟨x, hx, cx⟩ := early_calls a0
  obtain ⟨y, hy, cy⟩ := early_calls a1
  have CX := fun W : World => Aside0.mk (cx W)
  have CY := fun W : World => Aside0.mk (cy W)
  have CP := fun W : World => Aside0.mk (rparts2_calls x hx W)
  have CR := fun W : World => Aside0.mk (right_calls x hx W)
  have CM := fun W : World => Aside0.mk (Match_calls x y hx hy W)
  have CQ := fun W : World => Aside0.mk (rmatch_calls x y hx hy W)
  have HB := Aside0.mk (Below.refl w.heap.size w)
  generalize globS x.data.toList y.data.toList = g at CM CQ
  obtain ⟨k, hk⟩ : ∃ k : Bool, k = (partsS x.data.toList).isSome := ⟨_, rfl⟩
  have CP2 : ∀ W : World, Aside0 (Calls Tryd.prog 8 #[.string x] W fun e w' => (∃ v, e = .returned (.tuple #[v, .bool k])) ∧ Below W.heap.size W w') := fun W => ⟨(CP W).out.mono fun e w' ⟨hq, hb⟩ => by
    refine ⟨?_, hb⟩
    cases hp : partsS x.data.toList with
    | none => rw [hp] at hq hk; subst hk; exact ⟨_, hq⟩
    | some l => rw [hp] at hq hk; subst hk; obtain ⟨A, c, rfl, _⟩ := hq; exact ⟨_, rfl⟩⟩
  rw [← hk] at CR
  clear CP hk hx hy cx cy
  go_enter Tryd.func3, Tryd.ntmps3
  go_wp2_with (first
    | (go_at_call 6; (with_reducible refine (CL _).out.mono ?_); rintro e w1 ⟨rfl, hb1⟩)
    | (go_at_call 7; (with_reducible refine (CX _).out.mono ?_); rintro e w2 ⟨rfl, hb2⟩)
    | (go_at_call 7; (with_reducible refine (CY _).out.mono ?_); rintro e w3 ⟨rfl, hb3⟩)
    | (go_at_call 8; (with_reducible refine (CP2 _).out.mono ?_); rintro e w4 ⟨⟨V, rfl⟩, hb4⟩)
    | (go_at_call 9; (with_reducible refine (CR _).out.mono ?_); rintro e w5 ⟨rfl, hb5⟩)
    | (go_at_call 10; (with_reducible refine (CM _).out.mono ?_); rintro e w6 ⟨rfl, hb6⟩)
    | (go_at_call 11; (with_reducible refine (CQ _).out.mono ?_); rintro e w7 ⟨rfl, hb7⟩))
  go_ret
  exact ⟨by simp, b_below hb7 (b_below hb6 (b_below hb5 (b_below hb4 (b_below hb3 (b_below hb2 hb1)))))⟩
end Go.Proofs.YtefomcoimbnalaaDoor.Pure
