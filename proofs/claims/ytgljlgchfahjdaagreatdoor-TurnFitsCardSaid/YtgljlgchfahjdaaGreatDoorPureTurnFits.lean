/- The law TurnFits, walked: its closed calls were run, call by call; the rest was walked by hand. Conditions: the row of numbers is no longer than a machine's memory. -/
import Derived.Test.YtgljlgchfahjdaaGreatDoorK24Z
import Derived.Test.YtgljlgchfahjdaaGreatDoorFiles
import Derived.Test.YtgljlgchfahjdaaGreatDoorFitsLaw
namespace Go.Proofs.YtgljlgchfahjdaaGreatDoor
open Go Go.Vint Go.RowKit
set_option maxRecDepth 1000000
theorem lives_calls (W : World) : Calls Tryz.prog 4 #[] W fun e W' => e = .returned (.bool true) ∧ Below W.heap.size W W' := by
  have e : truthK (envH 173291855882550928723650886508942731465031946708030346708938529499465004020251978782193514347234472312347454599152973904043802624 tab24_21) 1000000 4 [] ⟨.e, 0⟩ = true := by kernel_rfl
  have h := truth_calls (φ := ⟨fun _ => 0, fun _ => 0, fun _ => 0⟩) (w := W) (envH_ok true _ _ ok24_21) mixedH (by decide) e (by simp [fineL])
  simpa only [concL, conc] using h
noncomputable abbrev ptrV (φ : Phi) : Value := conc φ (.ptr 322 0)
/-- behind begin -/
def Dl (W w : World) (v : Value) : Prop := ∃ φ, v = ptrV φ ∧ Go.Vint.Left PP W h24_48 φ w
/-- behind File, where Changed will be asked -/
def Dq (W w : World) (v : Value) : Prop := ∃ φ h', v = ptrV φ ∧ Go.Vint.Left PP W h' φ w ∧ 322 < h'.next ∧ endQ h' = true
theorem okE : ∀ k ∈ ([] : List (Bool × Known)), entryOk PP k := fun k hk => by cases hk
theorem ptr_lt : 322 < h24_48.next := Nat.le_of_ble_eq_true (by kernel_rfl)
theorem begin_calls (W : World) : Calls Tryz.prog 7 #[.bool true, .int .i64 0, .slice none 0 0] W fun e w' => ∃ a, e = .returned (.pointer (some a)) ∧ Dl W w' (.pointer (some a)) := by
  have h := calls_runK (φ := ⟨fun _ => 0, fun _ => 0, fun _ => 0⟩) (w := W) (envH_ok true _ _ ok24_30) mixedH run24_30 (Inv.bare _ W (by decide)) (by simp [fineL, fineV])
  refine Calls.mono (by simp only [concL, conc] at h; exact h) ?_
  rintro e w' ⟨φ, rfl, X, I, _⟩
  exact ⟨_, rfl, φ, rfl, Go.Vint.Left.first (Below.refl _ _) X I⟩
theorem conc_ptr {φ φ' : Phi} {h h' : H} {w w' : World} (X : Ext φ h w φ' h' w') (hl : 322 < h.next) : ptrV φ' = ptrV φ := conc_same X.same _ (by simpa [fineV] using hl)
theorem file_q {r : Nat} {x1 x0 : Int} (e : fileQ r x1 x0 = true) (W w : World) (v : Value) (h : Dl W w v) : Calls Tryz.prog 8 #[v, .int .i64 x1, .int .i64 x0] w fun e w' => e = .returned (.int .i64 r) ∧ Dq W w' v := by
  obtain ⟨φ, rfl, L⟩ := h
  have L0 := L
  obtain ⟨_, _, _, _, I⟩ := L
  have c := endB_calls (envH_ok false _ _ okE) mixedH e I (by simpa [fineL, fineV] using ptr_lt)
  refine Calls.mono (by simp only [concL, conc] at c; exact c) ?_
  rintro en w' ⟨φ', v, h', hp, rfl, X, I', _⟩
  cases hv : isInt r v with
  | false => rw [hv] at hp; cases hp
  | true =>
    rw [hv] at hp
    have hp : (Bool.casesOn (Nat.ble (Nat.succ 322) h'.next) false (endQ h') : Bool) = true := hp
    cases hb : Nat.ble (Nat.succ 322) h'.next with
    | false => rw [hb] at hp; cases hp
    | true =>
      rw [hb] at hp
      rw [isInt_eq hv]
      refine ⟨by simp only [conc], φ', h', (conc_ptr X ptr_lt).symm, L0.step X I', Nat.le_of_ble_eq_true hb, hp⟩
theorem changed_q (W w : World) (v : Value) (h : Dq W w v) : Calls Tryz.prog 9 #[v] w fun e w' => e = .returned (.slice none 0 0) ∧ Below W.heap.size W w' := by
  obtain ⟨φ, h', rfl, L, hl, e⟩ := h
  have L0 := L
  obtain ⟨_, _, _, _, I⟩ := L
  have c := endB_calls (envH_ok false _ _ okE) mixedH e I (by simpa [fineL, fineV] using hl)
  refine Calls.mono (by simp only [concL, conc] at c; exact c) ?_
  rintro en w' ⟨φ', v, h2, hp, rfl, X, I', _⟩
  rw [isNils_eq hp]
  exact ⟨by simp only [conc], (L0.step X I').below⟩
theorem file_c {x1 x0 : Nat} (e : fileC x1 x0 = true) (W w : World) (v : Value) (h : Dl W w v) : Calls Tryz.prog 8 #[v, .int .i64 (x1 : Int), .int .i64 (x0 : Int)] w fun e w' => e = .returned (.int .i64 0) ∧ Below W.heap.size W w' := by
  obtain ⟨φ, rfl, L⟩ := h
  have L0 := L
  obtain ⟨_, _, _, _, I⟩ := L
  unfold fileC at e
  cases hb : and (Nat.beq x1 1) (Nat.beq x0 1) with
  | true =>
    obtain ⟨h1, h2⟩ := and_ok hb
    obtain rfl := beq_eq h1
    obtain rfl := beq_eq h2
    have c := calls_runK (envH_ok true _ _ ok24_31) mixedH run24_31 I (by simpa [fineL, fineV] using ptr_lt)
    refine Calls.mono (by simp only [concL, conc] at c; exact c) ?_
    rintro en w' ⟨φ', rfl, X, I', _⟩
    exact ⟨rfl, (L0.step X I').below⟩
  | false =>
    rw [hb] at e
    have c := endB_calls (envH_ok false _ _ okE) mixedH e I (by simpa [fineL, fineV] using ptr_lt)
    refine Calls.mono (by simp only [concL, conc] at c; exact c) ?_
    rintro en w' ⟨φ', v, h', hp, rfl, X, I', _⟩
    rw [isInt_eq hp]
    exact ⟨by simp only [conc]; rfl, (L0.step X I').below⟩
theorem dl_below (W w : World) (v : Value) (h : Dl W w v) : Below W.heap.size W w := by obtain ⟨_, _, L⟩ := h; exact L.below
theorem dq_below (W w : World) (v : Value) (h : Dq W w v) : Below W.heap.size W w := by obtain ⟨_, _, _, L, _⟩ := h; exact L.below
theorem fileA {x0 : Int} (h1 : x0 ≠ 1) (h2 : x0 ≠ 2) (x1 : Int) : fileQ 1 x1 x0 = true := by
  cases x0 with
  | negSucc n => exact fileA_neg x1 n
  | ofNat n =>
    match n, h1, h2 with
    | 0, _, _ => exact fileA_zero x1
    | 1, h, _ => exact absurd rfl h
    | 2, _, h => exact absurd rfl h
    | n + 3, _, _ => exact fileA_big x1 n
theorem neg_of {x : Int} (h : x < 0) : ∃ n, x = Int.negSucc n := by
  cases x with
  | negSucc n => exact ⟨n, rfl⟩
  | ofNat n => exact absurd h (by simp)
theorem big_of {x : Int} (h : 31 < x) : ∃ n : Nat, x = Int.ofNat (n + 32) := ⟨(x - 32).toNat, by show x = (((x - 32).toNat + 32 : Nat) : Int); omega⟩
theorem mid_of {x : Int} (h : 0 ≤ x) (h2 : x ≤ 31) : ∃ n : Nat, n < 32 ∧ x = (n : Int) := ⟨x.toNat, by omega, by omega⟩
namespace Pure
theorem TurnFits_walk (a0 a1 a2 a3 a5 a6 a8 : Int) (A4 : Option Addr) (l4 c4 : Nat) (A7 : Option Addr) (l7 c7 : Nat) (A : Option Addr) (c : Nat) (m : List Int) (x0 x1 : Int) (w : World) (hmax : m.length ≤ 9223372036854775807) (hc : m.length ≤ c) (hr : Fits.IRow w A m) :
    Calls Tryz.prog 3 #[.agg #[.int .i64 a0, .int .i64 a1, .int .i64 a2, .int .i64 a3, .slice A4 l4 c4, .int .i64 a5, .int .i64 a6, .slice A7 l7 c7, .int .i64 a8], .slice A m.length c, .agg #[.int .i64 x0, .int .i64 x1]] w fun e w' => e = .returned (.bool true) ∧ Below w.heap.size w w' := by
  by_cases h1 : x0 = 1
  · subst h1
    by_cases hn : x1 < 0
    · obtain ⟨n, rfl⟩ := neg_of hn
      exact Fits.law_1n lives_calls Dl Dq dl_below dq_below begin_calls _ hn (file_q (fileB_neg1 n)) changed_q a0 a1 a2 a3 a5 a6 a8 A4 l4 c4 A7 l7 c7 A c m w hmax hc hr
    · by_cases hb : 31 < x1
      · obtain ⟨n, rfl⟩ := big_of hb
        exact Fits.law_1b lives_calls Dl Dq dl_below dq_below begin_calls _ hb (file_q (fileB_big1 n)) changed_q a0 a1 a2 a3 a5 a6 a8 A4 l4 c4 A7 l7 c7 A c m w hmax hc hr
      · obtain ⟨n, hlt, rfl⟩ := mid_of (x := x1) (by omega) (by omega)
        exact Fits.law_1c lives_calls Dl (fun W w _ => Below W.heap.size W w) dl_below (fun _ _ _ h => h) begin_calls _ (by omega) (by omega) (file_c (fileC_1 n hlt)) a0 a1 a2 a3 a5 a6 a8 A4 l4 c4 A7 l7 c7 A c m w hmax hc hr
  · by_cases h2 : x0 = 2
    · subst h2
      by_cases hn : x1 < 0
      · obtain ⟨n, rfl⟩ := neg_of hn
        exact Fits.law_2n lives_calls Dl Dq dl_below dq_below begin_calls _ hn (file_q (fileB_neg2 n)) changed_q a0 a1 a2 a3 a5 a6 a8 A4 l4 c4 A7 l7 c7 A c m w hmax hc hr
      · by_cases hb : 31 < x1
        · obtain ⟨n, rfl⟩ := big_of hb
          exact Fits.law_2b lives_calls Dl Dq dl_below dq_below begin_calls _ hb (file_q (fileB_big2 n)) changed_q a0 a1 a2 a3 a5 a6 a8 A4 l4 c4 A7 l7 c7 A c m w hmax hc hr
        · obtain ⟨n, hlt, rfl⟩ := mid_of (x := x1) (by omega) (by omega)
          exact Fits.law_2c lives_calls Dl (fun W w _ => Below W.heap.size W w) dl_below (fun _ _ _ h => h) begin_calls _ (by omega) (by omega) (file_c (fileC_2 n hlt)) a0 a1 a2 a3 a5 a6 a8 A4 l4 c4 A7 l7 c7 A c m w hmax hc hr
    · exact Fits.law_A lives_calls Dl Dq dl_below dq_below begin_calls x0 x1 h1 h2 (file_q (fileA h1 h2 x1)) changed_q a0 a1 a2 a3 a5 a6 a8 A4 l4 c4 A7 l7 c7 A c m w hmax hc hr
end Pure
end Go.Proofs.YtgljlgchfahjdaaGreatDoor
