/- What glob's functions do at any pattern and any byte: what Gl says. Conditions: as the theorems state them. -/
import Derived.Test.YtefomcoimbnalaaDoorProg
import Derived.Test.YtefomcoimbnalaaDoorGl
import Derived.Below
import Derived.OwnWalk
import Derived.Tactics
import Derived.WalkKit
import Derived.KernelRfl
import Derived.BigQuiet
import Derived.Deep.QuietTactic
import Derived.Deep.LoopGhost
import Derived.WideLaws
import Derived.BigFrame
import Derived.WalkMore
import Derived.Deep.RegionHeld3
import Derived.Lib.TrimUEq
namespace Go.Proofs.YtefomcoimbnalaaDoor.Gw
open Go Go.RowKit Go.Gl
structure Aside0 (p : Prop) : Prop where
  mk :: out : p
set_option maxRecDepth 100000
set_option maxHeartbeats 8000000
theorem dl (x : ByteArray) : x.toList = x.data.toList := Lib.toList_data x
theorem sz (x : ByteArray) : x.size = x.data.toList.length := Lib.size_eq x
theorem ext_list (x : ByteArray) (a b : Nat) : (x.extract a b).data.toList = (x.data.toList.take b).drop a := by rw [Lib.extract_eq, List.drop_take]
theorem at_list (x : ByteArray) (i : Nat) (h : i < x.size) : x.data.toList[i]? = some x[i] := by
  have : i < x.data.size := h
  rw [Array.getElem?_toList, Array.getElem?_eq_getElem this]; rfl
theorem pre1 (x : ByteArray) (c : UInt8) : ((x.extract 0 1).toList == [c]) = (x.data.toList.head? == some c) := by
  rw [dl, ext_list]
  cases x.data.toList with
  | nil => rfl
  | cons a t => simp
theorem prefix_yes (x : ByteArray) (c : UInt8) (h : x.data.toList.head? = some c) (w : World) : Calls Tryd.prog 20 #[.string x, .string ⟨#[c]⟩] w fun e w' => e = .returned (.tuple #[.string (x.extract 1 x.size), .bool true]) ∧ Below w.heap.size w w' := by
  have HB := Aside0.mk (Below.refl w.heap.size w)
  have hs : 1 ≤ x.size := by
    rw [sz]
    cases hx : x.data.toList with
    | nil => rw [hx] at h; cases h
    | cons a t => simp
  have f1 : ((x.extract 0 1).toList == [c]) = true := by rw [pre1, h]; simp
  have s1 : ((1 : Int) ≤ (x.size : Int)) = True := eq_true (by omega)
  have s2 : decide ((1 : Int) ≤ (x.size : Int)) = true := decide_eq_true (by omega)
  clear h hs
  go_enter Tryd.func20, Tryd.ntmps20
  go_wp2
  go_ret2
  exact ⟨rfl, HB.out⟩
theorem prefix_no (x : ByteArray) (c : UInt8) (h : x.data.toList.head? ≠ some c) (w : World) : Calls Tryd.prog 20 #[.string x, .string ⟨#[c]⟩] w fun e w' => e = .returned (.tuple #[.string x, .bool false]) ∧ Below w.heap.size w w' := by
  have HB := Aside0.mk (Below.refl w.heap.size w)
  have f1 : ((x.extract 0 1).toList == [c]) = false := by rw [pre1]; exact beq_eq_false_iff_ne.2 h
  by_cases hs : 1 ≤ x.size
  · have s1 : ((1 : Int) ≤ (x.size : Int)) = True := eq_true (by omega)
    have s2 : decide ((1 : Int) ≤ (x.size : Int)) = true := decide_eq_true (by omega)
    clear h hs
    go_enter Tryd.func20, Tryd.ntmps20
    go_wp2
    go_ret2
    exact ⟨rfl, HB.out⟩
  · have s1 : ((1 : Int) ≤ (x.size : Int)) = False := eq_false (by omega)
    have s2 : decide ((1 : Int) ≤ (x.size : Int)) = false := decide_eq_false (by omega)
    clear h hs
    go_enter Tryd.func20, Tryd.ntmps20
    go_wp2
    go_ret2
    exact ⟨rfl, HB.out⟩
theorem below_drew {B : Nat} {w w' : World} (h : Below B w w') : Below B w w'.drew := ⟨h.os, h.tape, h.output, h.size, h.block⟩
theorem among_loop (x0 y : ByteArray) (c : UInt8) (nb r : Bool) (hr : r = (rng y.data.toList c != nb)) (w : World) (CP : ∀ W : World, Calls Tryd.prog 20 #[.string x0, .string ⟨#[33]⟩] W fun e w' => e = .returned (.tuple #[.string y, .bool nb]) ∧ Below W.heap.size W w') :
    Calls Tryd.prog 36 #[.string x0, .int .u8 (c.toNat : Int)] w fun e w' => e = .returned (.bool r) ∧ Below w.heap.size w w' := by
  have CP := fun W : World => Aside0.mk (CP W)
  have HB := Aside0.mk (Below.refl w.heap.size w)
  have HF := Aside0.mk hr
  clear hr
  go_enter Tryd.func36, Tryd.ntmps36
  go_wp2_with (go_at_call 20; (with_reducible refine (CP _).out.mono ?_); rintro e w' ⟨rfl, hb⟩; replace HB := Aside0.mk (HB.out.trans (hb.mono HB.out.size)); clear hb)
  go_loopg [0] y.size (fun kq v0 wx => ∃ x : ByteArray, v0 = .string x ∧ x.size ≤ kq ∧ Aside0 (rng x.data.toList c = rng y.data.toList c) ∧ Aside0 (Below w.heap.size w wx))
  case atStart => exact ⟨y, rfl, Nat.le_refl _, ⟨rfl⟩, HB⟩
  case round =>
    obtain ⟨x, rfl, hk, HR, HB⟩ := hrel
    cases hx : x.data.toList with
    | nil =>
      have e0 : x.toList.isEmpty = true := by rw [dl, hx]; rfl
      have hh := HR.out
      rw [hx, rng_nil] at hh
      have HH := Aside0.mk hh
      clear hh HR hx
      go_wp2
      go_ret
      exact ⟨by rw [HF.out, ← HH.out]; cases nb <;> rfl, HB.out⟩
    | cons lo t =>
      have e0 : x.toList.isEmpty = false := by rw [dl, hx]; rfl
      have hlen : x.size = t.length + 1 := by rw [sz, hx]; rfl
      have hz : 0 < x.size := by omega
      have g0 : x[0] = lo := by have := at_list x 0 hz; rw [hx] at this; simpa using this.symm
      obtain ⟨k1, rfl⟩ : ∃ k1, gk = k1 + 1 := ⟨gk - 1, by omega⟩
      by_cases hr : 2 ≤ t.length ∧ t[0]? = some 45
      · have hh := HR.out
        rw [hx, rng_far c hr] at hh
        have h2 : 2 < x.size := by omega
        have h1 : 1 < x.size := by omega
        have g1 : x[1] = 45 := by have := at_list x 1 h1; rw [hx, List.getElem?_cons_succ, hr.2] at this; simpa using this.symm
        have g2 : x[2] = t.getD 1 0 := by have := at_list x 2 h2; rw [hx, List.getElem?_cons_succ] at this; rw [List.getD_eq_getElem?_getD, this]; rfl
        generalize t.getD 1 0 = hi at *
        have HH := Aside0.mk hh
        have HX := Aside0.mk hx
        clear hh HR hx hlen
        have d2 : decide ((2 : Int) < (x.size : Int)) = true := decide_eq_true (by omega)
        have d3 : decide ((x.size : Int) > 2) = true := decide_eq_true (by omega)
        have s1 : ((3 : Int) ≤ (x.size : Int)) = True := eq_true (by omega)
        by_cases a1 : lo ≤ c
        · have b1 : decide ((lo.toNat : Int) ≤ (c.toNat : Int)) = true := decide_eq_true (Int.ofNat_le.2 (UInt8.le_iff_toNat_le.1 a1))
          by_cases a2 : c ≤ hi
          · have b2 : decide ((c.toNat : Int) ≤ (hi.toNat : Int)) = true := decide_eq_true (Int.ofNat_le.2 (UInt8.le_iff_toNat_le.1 a2))
            have HH2 : Aside0 (rng y.data.toList c = true) := ⟨by rw [← HH.out, decide_eq_true a1, decide_eq_true a2]; rfl⟩
            go_wp2
            go_region
            go_wp2
            go_ret
            exact ⟨by rw [HF.out, HH2.out]; cases nb <;> rfl, below_drew HB.out⟩
          · have b2 : decide ((c.toNat : Int) ≤ (hi.toNat : Int)) = false := decide_eq_false (fun h => a2 (UInt8.le_iff_toNat_le.2 (Int.ofNat_le.1 h)))
            have HH2 : Aside0 (rng (t.drop 2) c = rng y.data.toList c) := ⟨by rw [← HH.out, decide_eq_false a2, Bool.and_false, Bool.false_or]⟩
            go_wp2
            go_region
            go_wp2
            go_roundg k1
            case measure => omega
            case rel => exact ⟨x.extract 3 x.size, rfl, by rw [sz, ext_list, List.length_drop, List.length_take, ← sz]; omega, ⟨by rw [← HH2.out, ext_list, List.take_of_length_le (by rw [← sz]; exact Nat.le_refl _), HX.out]; rfl⟩, ⟨below_drew HB.out⟩⟩
        · have b1 : decide ((lo.toNat : Int) ≤ (c.toNat : Int)) = false := decide_eq_false (fun h => a1 (UInt8.le_iff_toNat_le.2 (Int.ofNat_le.1 h)))
          have HH2 : Aside0 (rng (t.drop 2) c = rng y.data.toList c) := ⟨by rw [← HH.out, decide_eq_false a1, Bool.false_and, Bool.false_or]⟩
          go_wp2
          go_region
          go_wp2
          go_roundg k1
          case measure => omega
          case rel => exact ⟨x.extract 3 x.size, rfl, by rw [sz, ext_list, List.length_drop, List.length_take, ← sz]; omega, ⟨by rw [← HH2.out, ext_list, List.take_of_length_le (by rw [← sz]; exact Nat.le_refl _), HX.out]; rfl⟩, ⟨below_drew HB.out⟩⟩
      · have hh := HR.out
        rw [hx, rng_one c hr] at hh
        by_cases h2 : 2 < x.size
        · have h1 : 1 < x.size := by omega
          have g1 : x[1] ≠ 45 := by
            intro e
            have := at_list x 1 h1
            rw [hx, List.getElem?_cons_succ, e] at this
            exact hr ⟨by omega, this⟩
          have g2 : ((x[1].toNat : Int) == 45) = false := beq_eq_false_iff_ne.2 (fun e => g1 (UInt8.toNat_inj.1 (show x[1].toNat = (45 : UInt8).toNat by show x[1].toNat = 45; omega)))
          have HH := Aside0.mk hh
          have HX := Aside0.mk hx
          clear hh HR hx g1 hlen
          have d2 : decide ((2 : Int) < (x.size : Int)) = true := decide_eq_true (by omega)
          have d3 : decide ((x.size : Int) > 2) = true := decide_eq_true (by omega)
          have s1 : ((1 : Int) ≤ (x.size : Int)) = True := eq_true (by omega)
          by_cases a1 : lo ≤ c
          · have b1 : decide ((lo.toNat : Int) ≤ (c.toNat : Int)) = true := decide_eq_true (Int.ofNat_le.2 (UInt8.le_iff_toNat_le.1 a1))
            by_cases a2 : c ≤ lo
            · have b2 : decide ((c.toNat : Int) ≤ (lo.toNat : Int)) = true := decide_eq_true (Int.ofNat_le.2 (UInt8.le_iff_toNat_le.1 a2))
              have HH2 : Aside0 (rng y.data.toList c = true) := ⟨by rw [← HH.out, decide_eq_true a1, decide_eq_true a2]; rfl⟩
              go_wp2
              go_region
              go_wp2
              go_ret
              exact ⟨by rw [HF.out, HH2.out]; cases nb <;> rfl, below_drew HB.out⟩
            · have b2 : decide ((c.toNat : Int) ≤ (lo.toNat : Int)) = false := decide_eq_false (fun h => a2 (UInt8.le_iff_toNat_le.2 (Int.ofNat_le.1 h)))
              have HH2 : Aside0 (rng t c = rng y.data.toList c) := ⟨by rw [← HH.out, decide_eq_false a2, Bool.and_false, Bool.false_or]⟩
              go_wp2
              go_region
              go_wp2
              go_roundg k1
              case measure => omega
              case rel => exact ⟨x.extract 1 x.size, rfl, by rw [sz, ext_list, List.length_drop, List.length_take, ← sz]; omega, ⟨by rw [← HH2.out, ext_list, List.take_of_length_le (by rw [← sz]; exact Nat.le_refl _), HX.out]; rfl⟩, ⟨below_drew HB.out⟩⟩
          · have b1 : decide ((lo.toNat : Int) ≤ (c.toNat : Int)) = false := decide_eq_false (fun h => a1 (UInt8.le_iff_toNat_le.2 (Int.ofNat_le.1 h)))
            have HH2 : Aside0 (rng t c = rng y.data.toList c) := ⟨by rw [← HH.out, decide_eq_false a1, Bool.false_and, Bool.false_or]⟩
            go_wp2
            go_region
            go_wp2
            go_roundg k1
            case measure => omega
            case rel => exact ⟨x.extract 1 x.size, rfl, by rw [sz, ext_list, List.length_drop, List.length_take, ← sz]; omega, ⟨by rw [← HH2.out, ext_list, List.take_of_length_le (by rw [← sz]; exact Nat.le_refl _), HX.out]; rfl⟩, ⟨below_drew HB.out⟩⟩
        · have HH := Aside0.mk hh
          have HX := Aside0.mk hx
          clear hh HR hx hlen
          have d2 : decide ((2 : Int) < (x.size : Int)) = false := decide_eq_false (by omega)
          have d3 : decide ((x.size : Int) > 2) = false := decide_eq_false (by omega)
          have s1 : ((1 : Int) ≤ (x.size : Int)) = True := eq_true (by omega)
          by_cases a1 : lo ≤ c
          · have b1 : decide ((lo.toNat : Int) ≤ (c.toNat : Int)) = true := decide_eq_true (Int.ofNat_le.2 (UInt8.le_iff_toNat_le.1 a1))
            by_cases a2 : c ≤ lo
            · have b2 : decide ((c.toNat : Int) ≤ (lo.toNat : Int)) = true := decide_eq_true (Int.ofNat_le.2 (UInt8.le_iff_toNat_le.1 a2))
              have HH2 : Aside0 (rng y.data.toList c = true) := ⟨by rw [← HH.out, decide_eq_true a1, decide_eq_true a2]; rfl⟩
              go_wp2
              go_region
              go_wp2
              go_ret
              exact ⟨by rw [HF.out, HH2.out]; cases nb <;> rfl, below_drew HB.out⟩
            · have b2 : decide ((c.toNat : Int) ≤ (lo.toNat : Int)) = false := decide_eq_false (fun h => a2 (UInt8.le_iff_toNat_le.2 (Int.ofNat_le.1 h)))
              have HH2 : Aside0 (rng t c = rng y.data.toList c) := ⟨by rw [← HH.out, decide_eq_false a2, Bool.and_false, Bool.false_or]⟩
              go_wp2
              go_region
              go_wp2
              go_roundg k1
              case measure => omega
              case rel => exact ⟨x.extract 1 x.size, rfl, by rw [sz, ext_list, List.length_drop, List.length_take, ← sz]; omega, ⟨by rw [← HH2.out, ext_list, List.take_of_length_le (by rw [← sz]; exact Nat.le_refl _), HX.out]; rfl⟩, ⟨below_drew HB.out⟩⟩
          · have b1 : decide ((lo.toNat : Int) ≤ (c.toNat : Int)) = false := decide_eq_false (fun h => a1 (UInt8.le_iff_toNat_le.2 (Int.ofNat_le.1 h)))
            have HH2 : Aside0 (rng t c = rng y.data.toList c) := ⟨by rw [← HH.out, decide_eq_false a1, Bool.false_and, Bool.false_or]⟩
            go_wp2
            go_region
            go_wp2
            go_roundg k1
            case measure => omega
            case rel => exact ⟨x.extract 1 x.size, rfl, by rw [sz, ext_list, List.length_drop, List.length_take, ← sz]; omega, ⟨by rw [← HH2.out, ext_list, List.take_of_length_le (by rw [← sz]; exact Nat.le_refl _), HX.out]; rfl⟩, ⟨below_drew HB.out⟩⟩
end Go.Proofs.YtefomcoimbnalaaDoor.Gw
