/- The plain law behind CardsPlace: a card that is placed in a block is picked there, and the others are as they were. Conditions: none. -/
import Derived.Test.YtegdoodjajpnhaaPlain
import Derived.Test.YtegdoodjajpnhaaGCrpx8
import Derived.Lib.Strings
namespace Go.Proofs.Ytegdoodjajpnhaa.Pure
open Go.RowKit Go.Proofs.Ytegdoodjajpnhaa.GCrp Go.Proofs.YtegdoodjajpnhaaW.PrintWords Go.Proofs.YtegdoodjajpnhaaW.PrintLast Go.Proofs.YtegdoodjajpnhaaW.PrintMore Go.Proofs.Ytegdoodjajpnhaa.Plain
theorem lives_ev : Ev (fun k => wainwrightlaw09_lives.f k) true := Ev.of (k := 100) wainwrightlaw09_lives.mono (by kernel_rfl)
def B (l : List UInt8) : ByteArray := ⟨l.toArray⟩
theorem B_data (l : List UInt8) : (B l).data.toList = l := rfl
theorem B_inj {x y : ByteArray} (h : x.data.toList = y.data.toList) : x = y := by
  cases x with | mk a => cases y with | mk b =>
    have : a = b := Array.toList_inj.1 h
    rw [this]
theorem ext_eq (x : ByteArray) (a b : Nat) : x.extract a b = B ((x.data.toList.take b).drop a) := by
  apply B_inj
  rw [B_data, Lib.extract_eq, List.drop_take]
theorem app_data (x y : ByteArray) : (x ++ y).data.toList = x.data.toList ++ y.data.toList := by rw [ByteArray.data_append, Array.toList_append]
theorem pick_list (L C : List UInt8) (k i : Nat) (hL : L.length = 128) (hC : C.length = 32) (hk : k < 4) (_hi : i < 4) :
    ((L.take (32 * k) ++ C ++ L.drop (32 * k + 32)).take (32 * i + 32)).drop (32 * i) = if i = k then C else (L.take (32 * i + 32)).drop (32 * i) := by
  have h1 : (L.take (32 * k)).length = 32 * k := by rw [List.length_take]; omega
  have h2 : (L.take (32 * k) ++ C).length = 32 * k + 32 := by rw [List.length_append, h1, hC]
  apply List.ext_getElem?
  intro j
  rw [List.getElem?_drop, List.getElem?_take]
  by_cases hj : 32 * i + j < 32 * i + 32
  · rw [if_pos hj]
    by_cases hik : i = k
    · subst hik
      rw [if_pos rfl, List.getElem?_append_left (by rw [h2]; exact hj), List.getElem?_append_right (by rw [h1]; omega), h1]
      congr 1
      omega
    · rw [if_neg hik, List.getElem?_drop, List.getElem?_take, if_pos hj]
      by_cases hlt : i < k
      · rw [List.getElem?_append_left (by rw [h2]; omega), List.getElem?_append_left (by rw [h1]; omega), List.getElem?_take, if_pos (by omega)]
      · rw [List.getElem?_append_right (by rw [h2]; omega), List.getElem?_drop, h2]
        congr 1
        omega
  · rw [if_neg hj]
    by_cases hik : i = k
    · rw [if_pos hik, List.getElem?_eq_none (by omega)]
    · rw [if_neg hik, List.getElem?_drop, List.getElem?_take, if_neg hj]
theorem w1 (i : Nat) (hi : i < 4) : wrap64 (32 * (i : Int)) = ((32 * i : Nat) : Int) := by rw [wrap_in _ (by omega) (by omega)]; omega
theorem w2 (i : Nat) (hi : i < 4) : wrap64 (((32 * i : Nat) : Int) + 32) = ((32 * i + 32 : Nat) : Int) := by rw [wrap_in _ (by omega) (by omega)]; omega
theorem there_eq (x : ByteArray) (i : Nat) (hx : x.size = 128) (hi : i < 4) : cards_there.f x (i : Int) = some true := by
  unfold cards_there.f
  rw [if_pos (by omega), if_pos (by omega), decide_eq_true (by omega)]
theorem pick_eq (x : ByteArray) (i : Nat) (hx : x.size = 128) (hi : i < 4) : cards_Pick.f x (i : Int) = some (B ((x.data.toList.take (32 * i + 32)).drop (32 * i)), 0) := by
  unfold cards_Pick.f
  rw [there_eq x i hx hi, w1 i hi, w2 i hi]
  simp only [Option.bind_some, if_true]
  rw [if_pos (by omega), if_pos (by omega), if_pos (by omega), Int.toNat_natCast, Int.toNat_natCast, ext_eq]
theorem pick_bad (x : ByteArray) (i : Int) (h : ¬ ((x.size : Int) = 128 ∧ 0 ≤ i ∧ i < 4)) : cards_Pick.f x i = some (⟨#[]⟩, 1) := by
  unfold cards_Pick.f cards_there.f
  by_cases h1 : (x.size : Int) = 128
  · rw [if_pos h1]
    by_cases h2 : i ≥ 0
    · rw [if_pos h2, decide_eq_false (by omega)]; rfl
    · rw [if_neg h2]; rfl
  · rw [if_neg h1]; rfl
theorem place_bad (x : ByteArray) (i : Int) (c : ByteArray) (h : ¬ ((x.size : Int) = 128 ∧ 0 ≤ i ∧ i < 4 ∧ (c.size : Int) = 32)) : cards_Place.f x i c = some (⟨#[]⟩, 1) := by
  unfold cards_Place.f cards_there.f
  by_cases h1 : (x.size : Int) = 128
  · rw [if_pos h1]
    by_cases h2 : i ≥ 0
    · rw [if_pos h2]
      by_cases h3 : i < 4
      · rw [decide_eq_true h3]
        simp only [Option.bind_some, if_true]
        rw [if_neg (by omega)]
      · rw [decide_eq_false h3]; rfl
    · rw [if_neg h2]; rfl
  · rw [if_neg h1]; rfl
theorem place_eq (x : ByteArray) (k : Nat) (c : ByteArray) (hx : x.size = 128) (hk : k < 4) (hc : c.size = 32) : cards_Place.f x (k : Int) c = some (B (x.data.toList.take (32 * k) ++ c.data.toList ++ x.data.toList.drop (32 * k + 32)), 0) := by
  have hL : x.data.toList.length = 128 := by rw [← Lib.size_eq, hx]
  unfold cards_Place.f
  rw [there_eq x k hx hk, w1 k hk, w2 k hk]
  simp only [Option.bind_some, if_true]
  have e1 : x.extract 0 (32 * k) = B (x.data.toList.take (32 * k)) := by rw [ext_eq, List.drop_zero]
  have e2 : x.extract (32 * k + 32) x.size = B (x.data.toList.drop (32 * k + 32)) := by rw [ext_eq, hx, ← hL, List.take_length]
  have s1 : (B (x.data.toList.take (32 * k))).size ≤ 128 := by rw [Lib.size_eq, B_data, List.length_take]; omega
  have s2 : (B (x.data.toList.drop (32 * k + 32))).size ≤ 128 := by rw [Lib.size_eq, B_data, List.length_drop]; omega
  rw [if_pos (by omega), if_pos (by omega), if_pos (by omega), Int.toNat_natCast, Int.toNat_natCast, e1, e2, if_pos (by omega), if_pos (by omega), if_pos (by omega), if_pos (by rw [ByteArray.size_append]; omega)]
  congr 2
theorem loop (x y c : ByteArray) (k : Nat) (hx : x.size = 128) (hy : y.size = 128) (hk : k < 4) (hc : c.size = 32)
    (hp : ∀ i : Nat, i < 4 → cards_Pick.f y (i : Int) = some (if i = k then c else B ((x.data.toList.take (32 * i + 32)).drop (32 * i)), 0)) : ∀ n i : Nat, 4 = i + n →
    Ev (fun q => wainwrightlaw09_CardsPlace.l0 q x (k : Int) c y 0 (i : Int)) true
  | 0, i, h => by
    refine Ev.step (f := fun _ => some true) (fun q => ?_) (Ev.now _)
    simp only [wainwrightlaw09_CardsPlace.l0]
    rw [if_neg (by omega), if_pos trivial, hy]
    rfl
  | n + 1, i, h => by
    have w3 : wrap64 ((i : Int) + 1) = ((i + 1 : Nat) : Int) := wrap_in _ (by omega) (by omega)
    refine Ev.step (f := fun q => wainwrightlaw09_CardsPlace.l0 q x (k : Int) c y 0 ((i + 1 : Nat) : Int)) (fun q => ?_) (loop x y c k hx hy hk hc hp n (i + 1) (by omega))
    simp only [wainwrightlaw09_CardsPlace.l0]
    rw [if_pos (by omega), pick_eq x i hx (by omega), hp i (by omega)]
    simp only [Option.bind_some, if_true, w1 i (by omega), w2 i (by omega), w3, Int.toNat_natCast, ext_eq]
    by_cases hik : i = k
    · subst hik
      simp only [if_true]
      rw [if_pos (by omega), if_pos (by omega), if_pos (by omega)]
    · rw [if_neg (by omega : ¬ (i : Int) = (k : Int))]
      simp only [if_neg hik, if_true]
      rw [if_pos (by omega), if_pos (by omega), if_pos (by omega)]
theorem CardsPlace : wainwrightlaw09_CardsPlace.Pure := by
  intro x a c hx0 _ hc0
  refine Ev.rounds (Ev.bind lives_ev ?_)
  simp only [if_true]
  by_cases hg : (x.size : Int) = 128 ∧ 0 ≤ a ∧ a < 4 ∧ (c.size : Int) = 32
  · obtain ⟨h1, h2, h3, h4⟩ := hg
    obtain ⟨k, rfl⟩ := Int.eq_ofNat_of_zero_le h2
    have hx : x.size = 128 := by omega
    have hc : c.size = 32 := by omega
    have hL : x.data.toList.length = 128 := by rw [← Lib.size_eq, hx]
    have hC : c.data.toList.length = 32 := by rw [← Lib.size_eq, hc]
    rw [place_eq x k c hx (by omega) hc]
    simp only [Option.bind_some, if_pos h1, if_neg (show ¬ ((k : Nat) : Int) < 0 by omega), if_neg (show ¬ ((k : Nat) : Int) > 3 by omega)]
    have hy : (B (x.data.toList.take (32 * k) ++ c.data.toList ++ x.data.toList.drop (32 * k + 32))).size = 128 := by
      rw [Lib.size_eq, B_data, List.length_append, List.length_append, List.length_take, List.length_drop]; omega
    refine Ev.step (f := fun q => wainwrightlaw09_CardsPlace.l0 q x (k : Int) c (B (x.data.toList.take (32 * k) ++ c.data.toList ++ x.data.toList.drop (32 * k + 32))) 0 ((0 : Nat) : Int)) (fun q => ?_) ?_
    · simp only [wainwrightlaw09_CardsPlace.j0]
      rw [if_neg (by rw [h4]; decide)]
      rfl
    · refine loop x _ c k hx hy (by omega) hc (fun i hi => ?_) 4 0 (by omega)
      rw [pick_eq _ i hy hi, B_data, pick_list _ _ k i hL hC (by omega) hi]
      by_cases hik : i = k
      · rw [if_pos hik, if_pos hik]
        congr 2
      · rw [if_neg hik, if_neg hik]
  · rw [place_bad x a c hg]
    simp only [Option.bind_some]
    have fin : ∀ b : Bool, (b = false → (x.size : Int) = 128 ∧ 0 ≤ a ∧ a < 4 ∧ (c.size : Int) = 32) → Ev (fun q => wainwrightlaw09_CardsPlace.j0 q x a c ⟨#[]⟩ 1 b) true := by
      intro b hb
      cases b with
      | false => exact absurd (hb rfl) hg
      | true =>
        by_cases hq : (x.size : Int) = 128 ∧ 0 ≤ a ∧ a < 4
        · obtain ⟨k, rfl⟩ := Int.eq_ofNat_of_zero_le hq.2.1
          refine Ev.step (f := fun _ => some true) (fun q => ?_) (Ev.now _)
          simp only [wainwrightlaw09_CardsPlace.j0]
          rw [if_pos trivial, pick_eq x k (by omega) (by omega)]
          simp only [Option.bind_some, if_true]
          rw [if_pos (by rw [Lib.toList_data]), if_neg (by decide), if_pos hq.1, if_pos (by omega), decide_eq_true (by omega)]
        · refine Ev.step (f := fun _ => some true) (fun q => ?_) (Ev.now _)
          simp only [wainwrightlaw09_CardsPlace.j0]
          rw [if_pos trivial, pick_bad x a hq]
          simp only [Option.bind_some, if_true]
          rw [if_pos (by rw [Lib.toList_data])]
    by_cases h1 : (x.size : Int) = 128
    · simp only [if_pos h1]
      by_cases h2 : a < 0
      · simp only [if_pos h2]; exact fin true (fun e => by cases e)
      · simp only [if_neg h2]
        by_cases h3 : a > 3
        · simp only [if_pos h3]; exact fin true (fun e => by cases e)
        · simp only [if_neg h3]
          refine fin _ (fun e => ⟨h1, by omega, by omega, ?_⟩)
          simpa using e
    · simp only [if_neg h1]; exact fin true (fun e => by cases e)
theorem CardsPlace_walk (a0 : ByteArray) (a1 : Int) (a2 : ByteArray) (W : World) (w0 : a0.size ≤ 140737488351232) (w1 : (Lit.int .i64 a1).wf = true) (w2 : a2.size ≤ 140737488351232) :
    Calls Try.prog 7 #[.string a0, .int .i64 a1, .string a2] W fun e w' => e = .returned (.bool true) ∧ Below W.heap.size W w' := by
  obtain ⟨k, hk⟩ := CardsPlace a0 a1 a2 w0 w1 w2
  exact wainwrightlaw09_CardsPlace.calls k a0 a1 a2 true W hk
end Go.Proofs.Ytegdoodjajpnhaa.Pure
