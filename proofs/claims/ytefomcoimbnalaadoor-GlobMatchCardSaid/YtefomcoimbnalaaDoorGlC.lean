/- What glob.cut does at any pattern: what Gl says. Conditions: as the theorems state them. -/
import Derived.Test.YtefomcoimbnalaaDoorGlB
import Derived.Test.YtefomcoimbnalaaDoorShelf
namespace Go.Proofs.YtefomcoimbnalaaDoor.Gw
open Go Go.RowKit Go.Gl
set_option maxRecDepth 100000
set_option maxHeartbeats 8000000
theorem idx_le : ∀ (l : List UInt8) (c : UInt8), -1 ≤ Lib.indexByte l c ∧ Lib.indexByte l c < l.length
  | [], c => by simp [Lib.indexByte]
  | b :: l, c => by
    have := idx_le l c
    unfold Lib.indexByte
    simp only [List.length_cons]
    split
    · omega
    · split
      · omega
      · rename_i h
        have : Lib.indexByte l c ≠ -1 := fun e => h (by rw [e]; rfl)
        omega
theorem index_calls (s : ByteArray) (w : World) : Calls Tryd.prog 17 #[.string s, .int .u8 93] w fun e w' => e = .returned (.int .i64 (Lib.indexByte s.data.toList 93)) ∧ w' = w := Go.Proofs.Tryd.strings_IndexByte s 93 w
theorem cut_plain (x : ByteArray) (hz : 0 < x.size) (h1 : x[0] ≠ 92) (h2 : x[0] ≠ 91) (w : World) :
    Calls Tryd.prog 26 #[.string x] w fun e w' => e = .returned (.tuple #[.string (x.extract 0 1), .string (x.extract 1 x.size), .bool true]) ∧ Below w.heap.size w w' := by
  have HB := Aside0.mk (Below.refl w.heap.size w)
  have b1 : ((x[0].toNat : Int) == 92) = false := by rw [show (92 : Int) = ((92 : UInt8).toNat : Int) from rfl, byte_eq]; exact beq_eq_false_iff_ne.2 h1
  have b2 : ((x[0].toNat : Int) == 91) = false := by rw [show (91 : Int) = ((91 : UInt8).toNat : Int) from rfl, byte_eq]; exact beq_eq_false_iff_ne.2 h2
  have s1 : ((1 : Int) ≤ (x.size : Int)) = True := eq_true (by omega)
  clear h1 h2
  go_enter Tryd.func26, Tryd.ntmps26
  go_wp2
  go_region
  go_wp2
  go_ret3
  exact ⟨rfl, below_drew HB.out⟩
theorem cut_esc (x : ByteArray) (hz : 0 < x.size) (h1 : x[0] = 92) (h2 : 2 ≤ x.size) (w : World) :
    Calls Tryd.prog 26 #[.string x] w fun e w' => e = .returned (.tuple #[.string (x.extract 0 2), .string (x.extract 2 x.size), .bool true]) ∧ Below w.heap.size w w' := by
  have HB := Aside0.mk (Below.refl w.heap.size w)
  have s1 : ((2 : Int) ≤ (x.size : Int)) = True := eq_true (by omega)
  have s2 : decide ((x.size : Int) < 2) = false := decide_eq_false (by omega)
  clear h2
  go_enter Tryd.func26, Tryd.ntmps26
  go_wp2
  go_region
  go_wp2
  go_ret3
  exact ⟨rfl, below_drew HB.out⟩
theorem cut_esc0 (x : ByteArray) (hz : 0 < x.size) (h1 : x[0] = 92) (h2 : ¬ 2 ≤ x.size) (w : World) :
    Calls Tryd.prog 26 #[.string x] w fun e w' => e = .returned (.tuple #[.string ⟨#[]⟩, .string ⟨#[]⟩, .bool false]) ∧ Below w.heap.size w w' := by
  have HB := Aside0.mk (Below.refl w.heap.size w)
  have s2 : decide ((x.size : Int) < 2) = true := decide_eq_true (by omega)
  clear h2
  go_enter Tryd.func26, Tryd.ntmps26
  go_wp2
  go_ret3
  exact ⟨rfl, HB.out⟩
theorem has_calls (x : ByteArray) (k : Bool) (h : k = (decide (2 ≤ x.size) && ((x.extract 0 2).toList == [91, 33]))) (w : World) : Calls Tryd.prog 35 #[.string x, .string ⟨#[91, 33]⟩] w fun e w' => e = .returned (.bool k) ∧ Below w.heap.size w w' := by
  have HB := Aside0.mk (Below.refl w.heap.size w)
  by_cases h2 : 2 ≤ x.size
  · have s1 : ((2 : Int) ≤ (x.size : Int)) = True := eq_true (by omega)
    have s2 : decide ((2 : Int) ≤ (x.size : Int)) = true := decide_eq_true (by omega)
    rw [decide_eq_true h2, Bool.true_and] at h
    subst h
    clear h2
    go_enter Tryd.func35, Tryd.ntmps35
    go_wp2
    go_ret
    exact ⟨by first | rfl | (simp; done), HB.out⟩
  · have s1 : ((2 : Int) ≤ (x.size : Int)) = False := eq_false (by omega)
    have s2 : decide ((2 : Int) ≤ (x.size : Int)) = false := decide_eq_false (by omega)
    rw [decide_eq_false h2, Bool.false_and] at h
    subst h
    clear h2
    go_enter Tryd.func35, Tryd.ntmps35
    go_wp2
    go_ret
    exact ⟨by first | rfl | (simp; done), HB.out⟩
theorem cut_set2 (x : ByteArray) (hz : 0 < x.size) (hs : x.size ≤ 1000) (h1 : x[0] = 91) (hp : false = (decide (2 ≤ x.size) && ((x.extract 0 2).toList == [91, 33]))) (hk : 2 ≤ x.size) (i : Nat) (hi : Lib.indexByte (x.extract 2 x.size).data.toList 93 = (i : Int)) (hlt : 2 + i < x.size) (w : World) :
    Calls Tryd.prog 26 #[.string x] w fun e w' => e = .returned (.tuple #[.string (x.extract 0 (2 + i + 1)), .string (x.extract (2 + i + 1) x.size), .bool true]) ∧ Below w.heap.size w w' := by
  have HB := Aside0.mk (Below.refl w.heap.size w)
  have CH := fun W : World => Aside0.mk (has_calls x false hp W)
  have CI := fun W : World => Aside0.mk (index_calls (x.extract 2 x.size) W)
  rw [hi] at CI
  have s1 : decide ((x.size : Int) < 2) = false := decide_eq_false (by omega)
  have s2 : ((2 : Int) ≤ (x.size : Int)) = True := eq_true (by omega)
  have s3 : decide ((i : Int) < 0) = false := decide_eq_false (by omega)
  have s4 : wrap64 ((2 : Int) + (i : Int)) = ((2 + i : Nat) : Int) := by simp only [wrap64]; omega
  have s5 : wrap64 (((2 + i : Nat) : Int) + 1) = ((2 + i + 1 : Nat) : Int) := by simp only [wrap64]; omega
  have s6 : (0 : Int) ≤ ((2 + i + 1 : Nat) : Int) := by omega
  have s7 : ((2 + i + 1 : Nat) : Int) ≤ (x.size : Int) := by omega
  generalize 2 + i + 1 = m at *
  generalize 2 + i = q at *
  clear hp hk hi hlt hs
  go_enter Tryd.func26, Tryd.ntmps26
  go_wp2_with (first
    | (go_at_call 35; (with_reducible refine (CH _).out.mono ?_); rintro e w' ⟨rfl, hb⟩; replace HB := Aside0.mk (HB.out.trans (hb.mono HB.out.size)); clear hb)
    | (go_at_call 17; (with_reducible refine (CI _).out.mono ?_); rintro e w2 ⟨rfl, rfl⟩))
  go_region
  go_wp2
  go_ret3
  exact ⟨rfl, below_drew HB.out⟩
theorem cut_setn2 (x : ByteArray) (hz : 0 < x.size) (hs : x.size ≤ 1000) (h1 : x[0] = 91) (hp : false = (decide (2 ≤ x.size) && ((x.extract 0 2).toList == [91, 33]))) (hn : x.size < 2 ∨ (2 ≤ x.size ∧ Lib.indexByte (x.extract 2 x.size).data.toList 93 = -1)) (w : World) :
    Calls Tryd.prog 26 #[.string x] w fun e w' => e = .returned (.tuple #[.string ⟨#[]⟩, .string ⟨#[]⟩, .bool false]) ∧ Below w.heap.size w w' := by
  have HB := Aside0.mk (Below.refl w.heap.size w)
  have CH := fun W : World => Aside0.mk (has_calls x false hp W)
  have CI := fun W : World => Aside0.mk (index_calls (x.extract 2 x.size) W)
  rcases hn with hn | ⟨hk, hi⟩
  · have s1 : decide ((x.size : Int) < 2) = true := decide_eq_true (by omega)
    clear hp hn hs CI
    go_enter Tryd.func26, Tryd.ntmps26
    go_wp2_with (go_at_call 35; (with_reducible refine (CH _).out.mono ?_); rintro e w' ⟨rfl, hb⟩; replace HB := Aside0.mk (HB.out.trans (hb.mono HB.out.size)); clear hb)
    go_ret3
    exact ⟨rfl, HB.out⟩
  · rw [hi] at CI
    have s1 : decide ((x.size : Int) < 2) = false := decide_eq_false (by omega)
    have s2 : ((2 : Int) ≤ (x.size : Int)) = True := eq_true (by omega)
    clear hp hk hi hs
    go_enter Tryd.func26, Tryd.ntmps26
    go_wp2_with (first
      | (go_at_call 35; (with_reducible refine (CH _).out.mono ?_); rintro e w' ⟨rfl, hb⟩; replace HB := Aside0.mk (HB.out.trans (hb.mono HB.out.size)); clear hb)
      | (go_at_call 17; (with_reducible refine (CI _).out.mono ?_); rintro e w2 ⟨rfl, rfl⟩))
    go_ret3
    exact ⟨rfl, HB.out⟩
theorem cut_set3 (x : ByteArray) (hz : 0 < x.size) (hs : x.size ≤ 1000) (h1 : x[0] = 91) (hp : true = (decide (2 ≤ x.size) && ((x.extract 0 2).toList == [91, 33]))) (hk : 3 ≤ x.size) (i : Nat) (hi : Lib.indexByte (x.extract 3 x.size).data.toList 93 = (i : Int)) (hlt : 3 + i < x.size) (w : World) :
    Calls Tryd.prog 26 #[.string x] w fun e w' => e = .returned (.tuple #[.string (x.extract 0 (3 + i + 1)), .string (x.extract (3 + i + 1) x.size), .bool true]) ∧ Below w.heap.size w w' := by
  have HB := Aside0.mk (Below.refl w.heap.size w)
  have CH := fun W : World => Aside0.mk (has_calls x true hp W)
  have CI := fun W : World => Aside0.mk (index_calls (x.extract 3 x.size) W)
  rw [hi] at CI
  have s1 : decide ((x.size : Int) < 3) = false := decide_eq_false (by omega)
  have s2 : ((3 : Int) ≤ (x.size : Int)) = True := eq_true (by omega)
  have s3 : decide ((i : Int) < 0) = false := decide_eq_false (by omega)
  have s4 : wrap64 ((3 : Int) + (i : Int)) = ((3 + i : Nat) : Int) := by simp only [wrap64]; omega
  have s5 : wrap64 (((3 + i : Nat) : Int) + 1) = ((3 + i + 1 : Nat) : Int) := by simp only [wrap64]; omega
  have s6 : (0 : Int) ≤ ((3 + i + 1 : Nat) : Int) := by omega
  have s7 : ((3 + i + 1 : Nat) : Int) ≤ (x.size : Int) := by omega
  generalize 3 + i + 1 = m at *
  generalize 3 + i = q at *
  clear hp hk hi hlt hs
  go_enter Tryd.func26, Tryd.ntmps26
  go_wp2_with (first
    | (go_at_call 35; (with_reducible refine (CH _).out.mono ?_); rintro e w' ⟨rfl, hb⟩; replace HB := Aside0.mk (HB.out.trans (hb.mono HB.out.size)); clear hb)
    | (go_at_call 17; (with_reducible refine (CI _).out.mono ?_); rintro e w2 ⟨rfl, rfl⟩))
  go_region
  go_wp2
  go_ret3
  exact ⟨rfl, below_drew HB.out⟩
theorem cut_setn3 (x : ByteArray) (hz : 0 < x.size) (hs : x.size ≤ 1000) (h1 : x[0] = 91) (hp : true = (decide (2 ≤ x.size) && ((x.extract 0 2).toList == [91, 33]))) (hn : x.size < 3 ∨ (3 ≤ x.size ∧ Lib.indexByte (x.extract 3 x.size).data.toList 93 = -1)) (w : World) :
    Calls Tryd.prog 26 #[.string x] w fun e w' => e = .returned (.tuple #[.string ⟨#[]⟩, .string ⟨#[]⟩, .bool false]) ∧ Below w.heap.size w w' := by
  have HB := Aside0.mk (Below.refl w.heap.size w)
  have CH := fun W : World => Aside0.mk (has_calls x true hp W)
  have CI := fun W : World => Aside0.mk (index_calls (x.extract 3 x.size) W)
  rcases hn with hn | ⟨hk, hi⟩
  · have s1 : decide ((x.size : Int) < 3) = true := decide_eq_true (by omega)
    clear hp hn hs CI
    go_enter Tryd.func26, Tryd.ntmps26
    go_wp2_with (go_at_call 35; (with_reducible refine (CH _).out.mono ?_); rintro e w' ⟨rfl, hb⟩; replace HB := Aside0.mk (HB.out.trans (hb.mono HB.out.size)); clear hb)
    go_ret3
    exact ⟨rfl, HB.out⟩
  · rw [hi] at CI
    have s1 : decide ((x.size : Int) < 3) = false := decide_eq_false (by omega)
    have s2 : ((3 : Int) ≤ (x.size : Int)) = True := eq_true (by omega)
    clear hp hk hi hs
    go_enter Tryd.func26, Tryd.ntmps26
    go_wp2_with (first
      | (go_at_call 35; (with_reducible refine (CH _).out.mono ?_); rintro e w' ⟨rfl, hb⟩; replace HB := Aside0.mk (HB.out.trans (hb.mono HB.out.size)); clear hb)
      | (go_at_call 17; (with_reducible refine (CI _).out.mono ?_); rintro e w2 ⟨rfl, rfl⟩))
    go_ret3
    exact ⟨rfl, HB.out⟩
end Go.Proofs.YtefomcoimbnalaaDoor.Gw
