/- What glob's functions do at any pattern and any byte: what Gl says: a set, a part, the first part. Conditions: as the theorems state them. -/
import Derived.Test.YtefomcoimbnalaaDoorGlA
namespace Go.Proofs.YtefomcoimbnalaaDoor.Gw
open Go Go.RowKit Go.Gl
set_option maxRecDepth 100000
set_option maxHeartbeats 8000000
theorem among_calls (x : ByteArray) (c : UInt8) (w : World) : Calls Tryd.prog 36 #[.string x, .int .u8 (c.toNat : Int)] w fun e w' => e = .returned (.bool (setB x.data.toList c)) ∧ Below w.heap.size w w' := by
  by_cases h : x.data.toList.head? = some 33
  · refine among_loop x (x.extract 1 x.size) c true _ ?_ w (prefix_yes x 33 h)
    unfold setB
    rw [if_pos h, ext_list, List.take_of_length_le (by rw [← sz]; exact Nat.le_refl _), List.drop_one]
    cases rng x.data.toList.tail c <;> rfl
  · refine among_loop x x c false _ ?_ w (prefix_no x 33 h)
    unfold setB
    rw [if_neg h]
    cases rng x.data.toList c <;> rfl
theorem byte_eq (a b : UInt8) : ((a.toNat : Int) == (b.toNat : Int)) = (a == b) := by
  by_cases h : a = b
  · subst h; simp
  · rw [beq_eq_false_iff_ne.2 h, beq_eq_false_iff_ne.2]
    intro e
    exact h (UInt8.toNat_inj.1 (by omega))
theorem one_calls (x : ByteArray) (c : UInt8) (hz : 0 < x.size) (hs : x.size ≤ 1000) (h91 : x.data.toList.head? = some 91 → 2 ≤ x.size) (w : World) :
    Calls Tryd.prog 27 #[.string x, .int .u8 (c.toNat : Int)] w fun e w' => e = .returned (.bool (onS x.data.toList c)) ∧ Below w.heap.size w w' := by
  have HB := Aside0.mk (Below.refl w.heap.size w)
  have hh : x.data.toList.head? = some x[0] := by rw [List.head?_eq_getElem?]; exact at_list x 0 hz
  have hw : wrap64 ((x.size : Int) - 1) = ((x.size - 1 : Nat) : Int) := by simp only [wrap64]; omega
  have i1 : (0 : Int) ≤ ((x.size - 1 : Nat) : Int) := by omega
  have i2 : ((x.size - 1 : Nat) : Int) < (x.size : Int) := by omega
  have i3 : ((x.size - 1 : Nat) : Int) ≤ (x.size : Int) := by omega
  by_cases h1 : x[0] = 63
  · have e : onS x.data.toList c = true := by unfold onS; rw [hh, h1, if_pos rfl]
    rw [e]
    clear e hh h91 hs
    go_enter Tryd.func27, Tryd.ntmps27
    go_wp2
    go_ret
    exact ⟨rfl, HB.out⟩
  · have b1 : ((x[0].toNat : Int) == 63) = false := by rw [show (63 : Int) = ((63 : UInt8).toNat : Int) from rfl, byte_eq]; exact beq_eq_false_iff_ne.2 h1
    by_cases h2 : x[0] = 91
    · have h3 : 2 ≤ x.size := h91 (by rw [hh, h2])
      have e : onS x.data.toList c = setB (x.extract 1 (x.size - 1)).data.toList c := by
        unfold onS
        rw [hh, h2, if_neg (by decide), if_pos rfl, ext_list, List.drop_take, List.dropLast_eq_take, List.length_drop, ← sz]
      rw [e]
      have C := fun W : World => Aside0.mk (among_calls (x.extract 1 (x.size - 1)) c W)
      generalize setB (x.extract 1 (x.size - 1)).data.toList c = r at *
      have i4 : (1 : Int) ≤ ((x.size - 1 : Nat) : Int) := by omega
      clear e hh h91 hs h3 h1
      go_enter Tryd.func27, Tryd.ntmps27
      go_wp2_with (go_at_call 36; (with_reducible refine (C _).out.mono ?_); rintro e w' ⟨rfl, hb⟩)
      go_ret
      exact ⟨rfl, hb⟩
    · have b2 : ((x[0].toNat : Int) == 91) = false := by rw [show (91 : Int) = ((91 : UInt8).toNat : Int) from rfl, byte_eq]; exact beq_eq_false_iff_ne.2 h2
      have hlt : x.size - 1 < x.size := by omega
      have e : onS x.data.toList c = (((x[x.size - 1]).toNat : Int) == (c.toNat : Int)) := by
        unfold onS
        rw [hh, if_neg (fun e => h1 (Option.some.inj e)), if_neg (fun e => h2 (Option.some.inj e)), byte_eq, List.getLast?_eq_getElem?, ← sz, at_list x _ hlt]
        simp
      rw [e]
      clear e hh h91 hs h1 h2
      go_enter Tryd.func27, Tryd.ntmps27
      go_wp2
      go_ret
      exact ⟨by first | rfl | (simp; done), HB.out⟩
end Go.Proofs.YtefomcoimbnalaaDoor.Gw
