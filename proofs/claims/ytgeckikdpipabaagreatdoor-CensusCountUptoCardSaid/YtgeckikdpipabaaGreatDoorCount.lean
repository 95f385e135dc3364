/- What census.Count does at any row of nodes: it counts them. Conditions: as the theorems state them. -/
import Derived.Test.YtgeckikdpipabaaGreatDoorProg
import Derived.Test.YtgeckikdpipabaaGreatDoorNodes
import Derived.Below
import Derived.OwnWalk
import Derived.Tactics
import Derived.WalkKit
import Derived.KernelRfl
import Derived.BigQuiet
import Derived.Deep.QuietTactic
import Derived.Deep.LoopGhost
import Derived.WideLaws
import Derived.BigFrame
import Derived.WalkMore
import Derived.Deep.MidRow
namespace Go.Proofs.YtgeckikdpipabaaGreatDoor.Count
open Go Go.RowKit Go.Cns
structure Aside0 (p : Prop) : Prop where
  mk :: out : p
set_option maxRecDepth 100000
set_option maxHeartbeats 8000000
theorem cell_below {w wx : World} (hb : Below w.heap.size w wx) {a : Addr} {v : Value} (h : w.cell? a = some v) : wx.cell? a = some v := by
  have hl : a.block < w.heap.size := by
    unfold World.cell? at h
    cases hh : w.heap[a.block]? with
    | none => rw [hh] at h; cases h
    | some o => exact (Array.getElem?_eq_some_iff.1 hh).1
  unfold World.cell? at h ⊢
  rw [hb.block a.block hl]
  exact h
theorem row_below {w wx : World} (hb : Below w.heap.size w wx) {A : Option Addr} {L : List Nd} (h : NRow w A L) : NRow wx A L := by
  intro j x hj
  obtain ⟨b, o, e, h2⟩ := h j x hj
  exact ⟨b, o, e, fun i u hu => cell_below hb (h2 i u hu)⟩
theorem count_calls (A : Option Addr) (c : Nat) (L : List Nd) (w : World) (hmax : L.length ≤ 4294967296) (hr : NRow w A L) :
    Calls Tryz.prog 5 #[.slice A L.length c] w fun e w' => e = .returned (.tuple #[.int .i64 (tot L (0, 0, 0)).1, .int .i64 (tot L (0, 0, 0)).2.1, .int .i64 (tot L (0, 0, 0)).2.2]) ∧ Below w.heap.size w w' := by
  have HR := Aside0.mk hr
  clear hr
  go_enter Tryz.func5, Tryz.ntmps5
  go_wp2
  go_loopg [5, 6, 7, 12] L.length (fun kq v5 v6 v7 v12 wx => ∃ (i : Nat) (z : Int × Int × Int), v5 = .int .i64 z.1 ∧ v6 = .int .i64 z.2.1 ∧ v7 = .int .i64 z.2.2 ∧ v12 = .int .i64 (i : Int) ∧ i ≤ L.length ∧ L.length ≤ i + kq ∧ Aside0 (tot (L.drop i) z = tot L (0, 0, 0)) ∧ Aside0 (Below w.heap.size w wx))
  case atStart => exact ⟨0, (0, 0, 0), rfl, rfl, rfl, rfl, Nat.zero_le _, by omega, ⟨rfl⟩, ⟨Below.refl _ w⟩⟩
  case round =>
    obtain ⟨i, ⟨z1, z2, z3⟩, rfl, rfl, rfl, rfl, hi, hfu, HA, HB⟩ := hrel
    by_cases hlt : i < L.length
    · obtain ⟨k1, rfl⟩ : ∃ k1, gk = k1 + 1 := ⟨gk - 1, by omega⟩
      have hd : L.drop i = L[i] :: L.drop (i + 1) := List.drop_eq_getElem_cons hlt
      have hh := HA.out
      rw [hd] at hh
      have hh : tot (L.drop (i + 1)) (tally (z1, z2, z3) L[i]) = tot L (0, 0, 0) := hh
      clear HA hd
      have hltI : decide ((i : Int) < (L.length : Int)) = true := decide_eq_true (by omega)
      have p1 : 0 ≤ (i : Int) := by omega
      have q1 : (i : Int) < (L.length : Int) := by omega
      obtain ⟨b, o, rfl, hcell⟩ := row_below HB.out HR.out i _ (List.getElem?_eq_getElem hlt)
      have HX := Aside0.mk (show wr.rangeAt b (o + i * 5) L[i].cells from hcell)
      clear hcell
      have HH := Aside0.mk hh
      clear hh
      generalize L[i] = X at *
      obtain ⟨nid, nkind, nlinks, ndata, nA, nl, nc⟩ := X
      simp only [Nd.cells] at HX
      have hwr : wrap64 ((i : Int) + 1) = ((i + 1 : Nat) : Int) := by
        simp only [wrap64]
        omega
      replace p1 := eq_true p1
      replace q1 := eq_true q1
      by_cases h2 : nkind = 2
      · subst h2
        go_wp2_with (refine wpList_load_mid rfl 28 _ rfl b (o + i * 5) rfl _ _ HX.out Tryz.underlying28 rfl (by kernel_rfl) ?_)
        go_roundg k1
        case measure => omega
        case rel => exact ⟨i + 1, (wrap64 (z1 + 1), z2, z3), rfl, rfl, rfl, by first | rfl | (rw [hwr]; done), by omega, by omega, ⟨by have := HH.out; simpa [tally] using this⟩, ⟨HB.out.alloc HB.out.size _⟩⟩
      · by_cases h1 : nkind = 1
        · subst h1
          go_wp2_with (refine wpList_load_mid rfl 28 _ rfl b (o + i * 5) rfl _ _ HX.out Tryz.underlying28 rfl (by kernel_rfl) ?_)
          go_roundg k1
          case measure => omega
          case rel => exact ⟨i + 1, (z1, wrap64 (z2 + 1), wrap64 (z3 + (ndata.size : Int))), rfl, rfl, rfl, by first | rfl | (rw [hwr]; done), by omega, by omega, ⟨by have := HH.out; simpa [tally] using this⟩, ⟨HB.out.alloc HB.out.size _⟩⟩
        · have b2 : (nkind == 2) = false := beq_eq_false_iff_ne.2 h2
          have b1 : (nkind == 1) = false := beq_eq_false_iff_ne.2 h1
          go_wp2_with (refine wpList_load_mid rfl 28 _ rfl b (o + i * 5) rfl _ _ HX.out Tryz.underlying28 rfl (by kernel_rfl) ?_)
          go_roundg k1
          case measure => omega
          case rel => exact ⟨i + 1, (z1, z2, z3), rfl, rfl, rfl, by first | rfl | (rw [hwr]; done), by omega, by omega, ⟨by have := HH.out; simpa [tally, h1, h2] using this⟩, ⟨HB.out.alloc HB.out.size _⟩⟩
    · have hltI : decide ((i : Int) < (L.length : Int)) = false := decide_eq_false (by omega)
      have hh := HA.out
      rw [List.drop_eq_nil_of_le (by omega)] at hh
      have hh : (z1, z2, z3) = tot L (0, 0, 0) := hh
      have HH := Aside0.mk hh
      clear hh HA
      go_wp2
      go_ret3
      exact ⟨by rw [← HH.out]; rfl, HB.out⟩
end Go.Proofs.YtgeckikdpipabaaGreatDoor.Count
