/- The law DeskPlaces, walked: its closed calls were run, call by call; the rest was walked by hand. Conditions: the row of numbers is no longer than a machine's memory. -/
import Derived.Test.YtdomphkodeamgaaGreatDoorK24Z
import Derived.Test.YtdomphkodeamgaaGreatDoorDeskV
namespace Go.Proofs.YtdomphkodeamgaaGreatDoor
open Go Go.Vint Go.RowKit
set_option maxRecDepth 1000000
theorem edit_nil_heap (n : Nat) (h : H) : (edit [] n h).heap = h.heap := rfl
theorem lives_calls (W : World) : Calls Tryz.prog 4 #[] W fun e W' => e = .returned (.bool true) ∧ Below W.heap.size W W' := by
  have h := calls_runK (φ := ⟨fun _ => 0, fun _ => 0, fun _ => 0⟩) (w := W) (envH_ok true _ _ ok24_41) mixedH run24_41 (Inv.bare _ W (by decide)) (by simp [fineL])
  refine Calls.mono (by simp only [concL, conc] at h; exact h) ?_
  rintro e w' ⟨φ, rfl, X, I, _⟩
  exact ⟨by simp only [conc], ext_below X⟩
section
/-- behind begin(true) -/
def Ptrue (W w : World) (h : Addr) (D : Nat) : Prop := ∃ φ, h = ⟨φ.blk 987, φ.off 987 + 0, none⟩ ∧ D = φ.blk 988 ∧ φ.off 988 = 0 ∧ Go.Vint.Left PP W h24_66 φ w
theorem desktrue : h24_66.get 988 = some (.cells [.ptr 987 0, .nilp, .nilp, .nilp, .nilp, .nilp, .nilp, .nilp, .nilp] 54 false 0 0) := by kernel_rfl
theorem deskmtrue : h24_67.get 988 = some (.cells [.ptr 987 0, .nilp, .nilp, .nilp, .nilp, .nilp, .nilp, .nilp, .nilp] 54 false 0 0) := by kernel_rfl
theorem begintrue (W : World) : Calls Tryz.prog 5 #[.bool true] W fun e w' => ∃ h D t, e = .returned (.tuple #[.pointer (some h), .pointer (some ⟨D, 0, none⟩), t]) ∧ Ptrue W w' h D := by
  have h := calls_runK (φ := ⟨fun _ => 0, fun _ => 0, fun _ => 0⟩) (w := W) (envH_ok true _ _ ok24_42) mixedH run24_42 (Inv.bare _ W (by decide)) (by simp [fineL, fineV])
  refine Calls.mono (by simp only [concL, conc] at h; exact h) ?_
  rintro e w' ⟨φ, rfl, X, I, _⟩
  obtain ⟨h0, _⟩ := cells_at I desktrue
  refine ⟨_, φ.blk 988, _, by rw [h0], φ, rfl, rfl, h0, Go.Vint.Left.first (Below.refl _ _) X I⟩
theorem subtrue : maskT 9 h24_68.heap h24_67.heap = h24_68.heap := by kernel_rfl
theorem nexttrue : h24_68.next = h24_67.next := Nat.eq_of_beq_eq_true (by kernel_rfl)
theorem notrue : h24_68.get 988 = none := by kernel_rfl
theorem heaptrue : h24_71.heap = h24_68.heap := (congrArg H.heap (show h24_71 = edit [] 1837 h24_68 from rfl)).trans (edit_nil_heap _ _)
theorem lttrue : 987 < h24_68.next := Nat.le_of_ble_eq_true (by kernel_rfl)
theorem ltbtrue : 987 < h24_66.next := Nat.le_of_ble_eq_true (by kernel_rfl)
theorem ltdtrue : 988 < h24_66.next := Nat.le_of_ble_eq_true (by kernel_rfl)
theorem maketrue (W w : World) (h : Addr) (D : Nat) (p : Ptrue W w h D) : Calls Tryz.prog 6 #[.pointer (some h), .string DeskP.fpath] w fun e w' => e = .returned (.int .i64 0) ∧ ∃ Fr Hs id x y, DeskP.Ready true W w' h D Fr Hs id x y := by
  obtain ⟨φ, rfl, rfl, _, L⟩ := p
  have L0 := L
  obtain ⟨_, _, _, _, I⟩ := L
  have c := calls_runK (envH_ok true _ _ ok24_43) mixedH run24_43 I (by simpa [fineL, fineV] using ltbtrue)
  refine Calls.mono (by simp only [concL, conc, fpath_val] at c; exact c) ?_
  rintro en w' ⟨φ', rfl, X, I', _⟩
  have r := ready_of (two := true) (envH_ok true _ _ ok24_45) (L0.step X I') deskmtrue (fun b o ho => maskT_get 9 h24_68.heap h24_67.heap b o (by rw [subtrue]; exact ho)) nexttrue notrue run24_45 heaptrue lttrue
  rw [(X.same 987 ltbtrue).1, (X.same 987 ltbtrue).2.1, (X.same 988 ltdtrue).1] at r
  exact ⟨rfl, _, _, _, _, _, r⟩
end
section
/-- behind begin(false) -/
def Pfalse (W w : World) (h : Addr) (D : Nat) : Prop := ∃ φ, h = ⟨φ.blk 1026, φ.off 1026 + 0, none⟩ ∧ D = φ.blk 1027 ∧ φ.off 1027 = 0 ∧ Go.Vint.Left PP W h24_77 φ w
theorem deskfalse : h24_77.get 1027 = some (.cells [.ptr 1026 0, .nilp, .nilp, .nilp, .nilp, .nilp, .nilp, .nilp, .nilp] 54 false 0 0) := by kernel_rfl
theorem deskmfalse : h24_86.get 1027 = some (.cells [.ptr 1026 0, .nilp, .nilp, .nilp, .nilp, .nilp, .nilp, .nilp, .nilp] 54 false 0 0) := by kernel_rfl
theorem beginfalse (W : World) : Calls Tryz.prog 5 #[.bool false] W fun e w' => ∃ h D t, e = .returned (.tuple #[.pointer (some h), .pointer (some ⟨D, 0, none⟩), t]) ∧ Pfalse W w' h D := by
  have h := calls_runK (φ := ⟨fun _ => 0, fun _ => 0, fun _ => 0⟩) (w := W) (envH_ok true _ _ ok24_49) mixedH run24_49 (Inv.bare _ W (by decide)) (by simp [fineL, fineV])
  refine Calls.mono (by simp only [concL, conc] at h; exact h) ?_
  rintro e w' ⟨φ, rfl, X, I, _⟩
  obtain ⟨h0, _⟩ := cells_at I deskfalse
  refine ⟨_, φ.blk 1027, _, by rw [h0], φ, rfl, rfl, h0, Go.Vint.Left.first (Below.refl _ _) X I⟩
theorem subfalse : maskT 9 h24_87.heap h24_86.heap = h24_87.heap := by kernel_rfl
theorem nextfalse : h24_87.next = h24_86.next := Nat.eq_of_beq_eq_true (by kernel_rfl)
theorem nofalse : h24_87.get 1027 = none := by kernel_rfl
theorem heapfalse : h24_90.heap = h24_87.heap := (congrArg H.heap (show h24_90 = edit [] 2287 h24_87 from rfl)).trans (edit_nil_heap _ _)
theorem ltfalse : 1026 < h24_87.next := Nat.le_of_ble_eq_true (by kernel_rfl)
theorem ltbfalse : 1026 < h24_77.next := Nat.le_of_ble_eq_true (by kernel_rfl)
theorem ltdfalse : 1027 < h24_77.next := Nat.le_of_ble_eq_true (by kernel_rfl)
theorem makefalse (W w : World) (h : Addr) (D : Nat) (p : Pfalse W w h D) : Calls Tryz.prog 6 #[.pointer (some h), .string DeskP.fpath] w fun e w' => e = .returned (.int .i64 0) ∧ ∃ Fr Hs id x y, DeskP.Ready false W w' h D Fr Hs id x y := by
  obtain ⟨φ, rfl, rfl, _, L⟩ := p
  have L0 := L
  obtain ⟨_, _, _, _, I⟩ := L
  have c := calls_runK (envH_ok true _ _ ok24_55) mixedH run24_55 I (by simpa [fineL, fineV] using ltbfalse)
  refine Calls.mono (by simp only [concL, conc, fpath_val] at c; exact c) ?_
  rintro en w' ⟨φ', rfl, X, I', _⟩
  have r := ready_of (two := false) (envH_ok true _ _ ok24_57) (L0.step X I') deskmfalse (fun b o ho => maskT_get 9 h24_87.heap h24_86.heap b o (by rw [subfalse]; exact ho)) nextfalse nofalse run24_57 heapfalse ltfalse
  rw [(X.same 1026 ltbfalse).1, (X.same 1026 ltbfalse).2.1, (X.same 1027 ltdfalse).1] at r
  exact ⟨rfl, _, _, _, _, _, r⟩
end
namespace Pure
theorem DeskPlaces_walk (two : Bool) (A : Option Addr) (c : Nat) (l : List Int) (w : World) (hmax : l.length ≤ 9223372036854775807) (hc : l.length ≤ c) (hr : DeskP.IRow w A l) :
    Calls Tryz.prog 3 #[.bool two, .slice A l.length c] w fun e w' => e = .returned (.bool true) ∧ Below w.heap.size w w' := by
  cases two with
  | true => exact DeskP.law true lives_calls Ptrue begintrue maketrue A c l w hmax hc hr
  | false => exact DeskP.law false lives_calls Pfalse beginfalse makefalse A c l w hmax hc hr
end Pure
end Go.Proofs.YtdomphkodeamgaaGreatDoor
