/- The law DeskNil, walked: that its 'lives' comes to true was run, call by call; the rest does not hang on the input's values. No conditions. -/
import Derived.Test.YtiimfeombijaeaaGreatDoorK24Z
namespace Go.Proofs.YtiimfeombijaeaaGreatDoor
open Go Go.Vint Go.RowKit
set_option maxRecDepth 1000000
noncomputable def tabL : List (Bool × Known) := [(true, k24_40)]
theorem livesL : ∀ h, CallTo PP k24_40.f k24_40.as h k24_40.v h := fun h => pure_good known24_40 (by intro φ D; simp [fineL, k24_40]) (by intro φ D; simp [fineV, k24_40])
theorem okL : ∀ k ∈ tabL, entryOk PP k := by
  intro k hk
  rcases List.mem_cons.1 hk with rfl | hk
  · exact livesL
  · cases hk
theorem deskNil_truth (k : Int) (s : Str) : truthK (envS false (2^4) tabL) 1000000 3 [.int .i64 k, .str s] ⟨.e, 1⟩ = true := by kernel_rfl
namespace Pure
theorem DeskNil_walk {p0 p1 : Prop} (a0 : Int) (a1 : ByteArray) (W : World) (_ : p0) (_ : p1) : Calls Tryz.prog 3 #[.int .i64 a0, .string a1] W fun e W' => e = .returned (.bool true) ∧ Below W.heap.size W W' := by
  obtain ⟨t, rfl⟩ := str_of a1
  have h := truth_calls (φ := ⟨fun _ => 0, fun _ => 0, fun _ => 0⟩) (w := W) (envH_ok false (2^4) tabL okL) mixedH (by decide) (deskNil_truth a0 t) (by simp [fineL, fineV])
  simpa only [concL, conc] using h
end Pure
end Go.Proofs.YtiimfeombijaeaaGreatDoor
