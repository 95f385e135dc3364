/- What ref28.set does at any text: what Gl says. Conditions: as the theorems state them. -/
import Derived.Test.YtefomcoimbnalaaDoorGlRa
import Derived.Test.YtefomcoimbnalaaDoorGlRb
import Derived.Test.YtefomcoimbnalaaDoorGlRc
namespace Go.Proofs.YtefomcoimbnalaaDoor.Gw
open Go Go.RowKit Go.Gl
set_option maxRecDepth 100000
set_option maxHeartbeats 16000000
theorem set_calls (s : ByteArray) (hs : s.size ≤ 1000) (w : World) : Calls Tryd.prog 14 #[.string s] w fun e w' => e = .returned (.agg (pcells false fun c => setB s.data.toList c.toUInt8)) ∧ Below w.heap.size w w' := by
  by_cases h33 : s.data.toList.head? = some 33
  · have ht : (s.extract 1 s.size).data.toList = s.data.toList.tail := by
      rw [ext_list, List.take_of_length_le (by rw [← sz]; exact Nat.le_refl _), List.drop_one]
    have := set_a s hs _ rfl (by rw [ByteArray.size_extract]; omega) h33 w
    rw [ht] at this
    have e : (fun c : Nat => setB s.data.toList c.toUInt8) = fun c => !rng s.data.toList.tail c.toUInt8 := funext fun c => by unfold setB; rw [if_pos h33]
    rw [e]; exact this
  · have e : (fun c : Nat => setB s.data.toList c.toUInt8) = fun c => rng s.data.toList c.toUInt8 := funext fun c => by unfold setB; rw [if_neg h33]
    rw [e]
    by_cases hz : 0 < s.size
    · exact set_b s hs hz h33 w
    · have h0 : s.data.toList = [] := List.eq_nil_of_length_eq_zero (by rw [← sz]; omega)
      rw [h0, show (fun c : Nat => rng [] c.toUInt8) = fun _ => false from funext fun c => rng_nil _]
      exact set_c s hz w
end Go.Proofs.YtefomcoimbnalaaDoor.Gw
