/- The law HouseNil, walked: that its 'lives' comes to true was run, call by call; the rest does not hang on the input's values; what Link and Rename do at a house that isn't there stands in YtcbpgpfkpokgfaaGreatDoorNames. No conditions. -/
import Derived.Test.YtcbpgpfkpokgfaaGreatDoorK24Z
import Derived.Test.YtcbpgpfkpokgfaaGreatDoorNames
namespace Go.Proofs.YtcbpgpfkpokgfaaGreatDoor
open Go Go.Vint Go.RowKit
set_option maxRecDepth 1000000
noncomputable def tabL : List (Bool × Known) := [(true, k24_35)]
theorem livesL : ∀ h, CallTo PP k24_35.f k24_35.as h k24_35.v h := fun h => pure_good known24_35 (by intro φ D; simp [fineL, k24_35]) (by intro φ D; simp [fineV, k24_35])
theorem okL : ∀ k ∈ tabL, entryOk PP k := by
  intro k hk
  rcases List.mem_cons.1 hk with rfl | hk
  · exact livesL
  · cases hk
noncomputable def hNil (xs : List V) (h : H) : Option (V × H) := match xs with
  | [.nilp, .str _, .str _] => some (.int .i64 1, h)
  | _ => none
theorem hNil_good {f : FuncId} (he : ∀ args w, (callFunc f args).run PP w = .ok (.enter f args) w)
    (c : ∀ (a b : ByteArray) (w : World), Calls PP f #[.pointer none, .string a, .string b] w fun e w' => e = .returned (.int .i64 1) ∧ Below w.heap.size w w') : GoodHook PP f hNil := by
  intro xs h v h' e
  unfold hNil at e
  split at e
  case h_2 => cases e
  rename_i s t
  cases e
  exact callTo_below he (by simp [fineV]) fun φ w => (c s.val t.val w).mono fun en w' ⟨h1, h2⟩ => ⟨h1, h2⟩
noncomputable def hkN (f : FuncId) : Option (List V → H → Option (V × H)) :=
  Bool.casesOn (Nat.beq f 11) (Bool.casesOn (Nat.beq f 12) (Bool.casesOn (bit (2^4) f) (baseHook f) (some fun xs h => lookupQ tabL f xs h)) (some hNil)) (some hNil)
theorem names_any (a b : ByteArray) : ∃ n : Int, ∀ w : World, Calls Tryz.prog 27 #[.string a, .string b] w fun e w' => e = .returned (.int .i64 n) ∧ Below w.heap.size w w' := Names.names_calls a b Names.split_calls
theorem hkN_good (okL : ∀ k ∈ tabL, entryOk PP k) : ∀ f g, hkN f = some g → GoodHook PP f g := by
  intro f g h
  unfold hkN at h
  cases h1 : Nat.beq f 11 with
  | true =>
    rw [h1] at h; cases h; rw [beq_eq h1]
    exact hNil_good (enters_of Tryz.func11 (by kernel_rfl) rfl) fun a b w => (names_any a b).elim fun n c => Names.link_nil a b n c w
  | false =>
    rw [h1] at h
    cases h2 : Nat.beq f 12 with
    | true =>
      rw [h2] at h; cases h; rw [beq_eq h2]
      exact hNil_good (enters_of Tryz.func12 (by kernel_rfl) rfl) fun a b w => (names_any a b).elim fun n c => Names.rename_nil a b n c w
    | false =>
      rw [h2] at h
      exact hooksH_ok (2^4) tabL okL f g h
noncomputable def envN : Env := ⟨tyOf PP flH, bodyOf PP fun f => (lvT.get 5 f).getD 0, hkN, fun e => Nat.beq e 130, false⟩
theorem envN_ok (okL : ∀ k ∈ tabL, entryOk PP k) : EnvOk PP envN :=
  ⟨fun t i h => tyOf_ok flH_ok h, fun e h => by rw [beq_eq (show Nat.beq e 130 = true from h)]; exact viewOk, by unfold envN; exact bodyOf_ok noNumH, by unfold envN; exact hookOk_of (hkN_good okL)⟩
theorem houseNil_a (k at' n : Int) (p q d : Str) : truthK envN 1000000 3 [.agg [.int .i64 k, .str p, .str q, .str d, .int .i64 at', .int .i64 n, .nils]] ⟨.e, 1⟩ = true := by kernel_rfl
theorem houseNil_b (k at' n : Int) (p q d : Str) (l c : Nat) : truthK envN 1000000 3 [.agg [.int .i64 k, .str p, .str q, .str d, .int .i64 at', .int .i64 n, .sl 0 0 l c]] ⟨.e, 1⟩ = true := by kernel_rfl
namespace Pure
theorem HouseNil_walk (k : Int) (p q d : ByteArray) (at' n : Int) (S : Value) (hS : S = .slice none 0 0 ∨ ∃ b o l c, S = .slice (some ⟨b, o, none⟩) l c) (W : World) :
    Calls Tryz.prog 3 #[.agg #[.int .i64 k, .string p, .string q, .string d, .int .i64 at', .int .i64 n, S]] W fun e W' => e = .returned (.bool true) ∧ Below W.heap.size W W' := by
  obtain ⟨p, rfl⟩ := str_of p
  obtain ⟨q, rfl⟩ := str_of q
  obtain ⟨d, rfl⟩ := str_of d
  rcases hS with rfl | ⟨b, o, l, c, rfl⟩
  · have h := truth_calls (φ := ⟨fun _ => 0, fun _ => 0, fun _ => 0⟩) (w := W) (envN_ok okL) mixedH (by decide) (houseNil_a k at' n p q d) (by simp [fineL, fineV])
    simpa only [concL, conc] using h
  · have h := truth_calls (φ := ⟨fun _ => b, fun _ => o, fun _ => 0⟩) (w := W) (envN_ok okL) mixedH (by decide) (houseNil_b k at' n p q d l c) (by simp [fineL, fineV])
    simpa only [concL, conc, Nat.add_zero] using h
end Pure
end Go.Proofs.YtcbpgpfkpokgfaaGreatDoor
