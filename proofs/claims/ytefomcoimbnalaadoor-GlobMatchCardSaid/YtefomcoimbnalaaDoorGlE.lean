/- What glob.match does at any parts and any name. Conditions: as the theorems state them. -/
import Derived.Test.YtefomcoimbnalaaDoorGlD
import Derived.Test.YtefomcoimbnalaaDoorGlM
namespace Go.Proofs.YtefomcoimbnalaaDoor.Gw
open Go Go.RowKit Go.Gl Go.Proofs.YtefomcoimbnalaaDoor.Plain
set_option maxRecDepth 100000
set_option maxHeartbeats 16000000
def stB (p : ByteArray) : Bool := stS p.data.toList
def onB (p : ByteArray) (c : UInt8) : Bool := onS p.data.toList c
/-- a part, as cut leaves one -/
def Fit (p : ByteArray) : Prop := 0 < p.size ∧ p.size ≤ 1000 ∧ (p.data.toList.head? = some 91 → 2 ≤ p.size)
noncomputable def T (p : Prop) : Bool := @decide p (Classical.propDecidable p)
theorem T_pos {p : Prop} (h : p) : T p = true := by unfold T; exact @decide_eq_true p (Classical.propDecidable p) h
theorem T_neg {p : Prop} (h : ¬ p) : T p = false := by unfold T; exact @decide_eq_false p (Classical.propDecidable p) h
theorem T_iff {p q : Prop} (h : p ↔ q) : T p = T q := by rw [propext h]
theorem cell_below {w wx : World} (hb : Below w.heap.size w wx) {a : Addr} {v : Value} (h : w.cell? a = some v) : wx.cell? a = some v := by
  have hl : a.block < w.heap.size := by
    unfold World.cell? at h
    cases hh : w.heap[a.block]? with
    | none => rw [hh] at h; cases h
    | some o => exact (Array.getElem?_eq_some_iff.1 hh).1
  unfold World.cell? at h ⊢
  rw [hb.block a.block hl]
  exact h
theorem srow_below {w wx : World} (hb : Below w.heap.size w wx) {A : Option Addr} {L : List ByteArray} (h : SRow w A L) : SRow wx A L := by
  intro j x hj
  obtain ⟨b, o, e, h2⟩ := h j x hj
  exact ⟨b, o, e, cell_below hb h2⟩
theorem star_calls (x : ByteArray) (w : World) : Calls Tryd.prog 28 #[.string x] w fun e w' => e = .returned (.bool (!stB x)) ∧ Below w.heap.size w w' := by
  have HB := Aside0.mk (Below.refl w.heap.size w)
  have e0 : (x.toList == ([42] : List UInt8)) = stB x := by rw [dl]; rfl
  generalize stB x = r at *
  go_enter Tryd.func28, Tryd.ntmps28
  go_wp2
  go_ret
  exact ⟨by first | rfl | (simp [bne, e0]; done), HB.out⟩
theorem sindex_calls (A : Option Addr) (c0 : Nat) (l0 : List ByteArray) (w : World) (hmax : l0.length ≤ 4294967296) (hr : SRow w A l0) :
    Calls Tryd.prog 33 #[.slice A l0.length c0, .func (.func 28) #[] #[]] w fun e w' => (∃ i : Int, e = .returned (.int .i64 i) ∧ decide (0 ≤ i) = !l0.all stB) ∧ Below w.heap.size w w' := by
  have HR := Aside0.mk hr
  clear hr
  go_enter Tryd.func33, Tryd.ntmps33
  go_wp2
  go_loopg [8] l0.length (fun kq v8 wx => ∃ i : Nat, v8 = .int .i64 (i : Int) ∧ i ≤ l0.length ∧ l0.length ≤ i + kq ∧ Aside0 ((l0.drop i).all stB = l0.all stB) ∧ Aside0 (Below w.heap.size w wx))
  case atStart => exact ⟨0, rfl, Nat.zero_le _, by omega, ⟨rfl⟩, ⟨Below.refl _ w⟩⟩
  case round =>
    obtain ⟨i, rfl, hi, hfu, HA, HB⟩ := hrel
    by_cases hlt : i < l0.length
    · obtain ⟨k1, rfl⟩ : ∃ k1, gk = k1 + 1 := ⟨gk - 1, by omega⟩
      have hd : l0.drop i = l0[i] :: l0.drop (i + 1) := List.drop_eq_getElem_cons hlt
      have hh := HA.out
      rw [hd, List.all_cons] at hh
      clear HA hd
      have hltI : decide ((i : Int) < (l0.length : Int)) = true := decide_eq_true (by omega)
      have p1 : 0 ≤ (i : Int) := by omega
      have q1 : (i : Int) < (l0.length : Int) := by omega
      obtain ⟨b, o, rfl, hx⟩ := srow_below HB.out HR.out i _ (List.getElem?_eq_getElem hlt)
      generalize l0[i] = X at *
      have hwr : wrap64 ((i : Int) + 1) = ((i + 1 : Nat) : Int) := by
        simp only [wrap64]
        omega
      have C := Aside0.mk (star_calls X wr)
      have HH := Aside0.mk hh
      clear hh
      replace p1 := eq_true p1
      replace q1 := eq_true q1
      generalize stB X = t at *
      cases t with
      | false =>
        go_wp2_with (go_at_call 28; (with_reducible refine C.out.mono ?_); rintro e w' ⟨rfl, hb⟩)
        go_ret
        exact ⟨⟨(i : Int), rfl, by rw [← HH.out]; simp⟩, HB.out.trans (hb.mono HB.out.size)⟩
      | true =>
        go_wp2_with (go_at_call 28; (with_reducible refine C.out.mono ?_); rintro e w' ⟨rfl, hb⟩)
        go_roundg k1
        case measure => omega
        case rel => exact ⟨i + 1, by first | rfl | (rw [hwr]; done), by omega, by omega, ⟨by simpa using HH.out⟩, ⟨HB.out.trans (hb.mono HB.out.size)⟩⟩
    · have hltI : decide ((i : Int) < (l0.length : Int)) = false := decide_eq_false (by omega)
      have hh := HA.out
      rw [List.drop_eq_nil_of_le (by omega)] at hh
      have HH := Aside0.mk hh
      clear hh HA
      go_wp2
      go_ret
      exact ⟨⟨-1, rfl, by rw [← HH.out]; rfl⟩, HB.out⟩
theorem scontains_calls (A : Option Addr) (c0 : Nat) (l0 : List ByteArray) (w : World) (hmax : l0.length ≤ 4294967296) (hr : SRow w A l0) :
    Calls Tryd.prog 22 #[.slice A l0.length c0, .func (.func 28) #[] #[]] w fun e w' => e = .returned (.bool (!l0.all stB)) ∧ Below w.heap.size w w' := by
  have C := Aside0.mk (sindex_calls A c0 l0 w hmax hr)
  clear hmax hr
  generalize (!l0.all stB) = t at *
  generalize l0.length = n at *
  go_enter Tryd.func22, Tryd.ntmps22
  go_wp2_with (go_at_call 33; (with_reducible refine C.out.mono ?_); rintro e w' ⟨⟨i, rfl, hi⟩, hb⟩)
  go_ret
  subst hi
  exact ⟨rfl, hb⟩
end Go.Proofs.YtefomcoimbnalaaDoor.Gw
