/- The plain law behind GlobJoins: two patterns one behind the other stand for a name just if it can be cut in two that they stand for; a star stands for all. Conditions: none. -/
import Derived.Test.YtefomcoimbnalaaDoorPureGlob
import Derived.Test.YtefomcoimbnalaaDoorGGlbx5
namespace Go.Proofs.YtefomcoimbnalaaDoor.Pure
open Go.RowKit Go.Proofs.YtefomcoimbnalaaDoor.GGlb Go.Proofs.YtefomcoimbnalaaDoorW.PrintWords Go.Proofs.YtefomcoimbnalaaDoorW.PrintLast Go.Proofs.YtefomcoimbnalaaDoorW.PrintMore Go.Proofs.YtefomcoimbnalaaDoor.Plain
theorem lives_ev : Ev (fun k => wainwrightlaw28_lives.f k) true := Ev.of (k := 60) wainwrightlaw28_lives.mono (by kernel_rfl)
theorem early_eq (x : ByteArray) : wainwrightlaw28_early.f x = some (B (x.data.toList.take 100)) := by
  unfold wainwrightlaw28_early.f
  have hs : x.size = x.data.toList.length := Lib.size_eq x
  have hm : mn (x.size : Int) 100 = ((min x.size 100 : Nat) : Int) := by unfold mn; split <;> omega
  rw [hm, if_pos (by omega), if_pos (by omega), Int.toNat_natCast]
  congr 1
  conv => lhs; rw [← B_of x]
  rw [ext_B, List.drop_zero, B_size]
  by_cases h : x.data.toList.length ≤ 100
  · rw [List.take_of_length_le (show x.data.toList.length ≤ 100 from h), List.take_of_length_le (by omega)]
  · rw [show min x.data.toList.length 100 = 100 by omega]
theorem good_star : Good (⟨#[42]⟩ : ByteArray) := by
  refine ⟨by decide, by decide, fun h => ?_⟩
  exact absurd h (by decide)
theorem st_star : stB (⟨#[42]⟩ : ByteArray) = true := by
  unfold stB
  rw [Lib.toList_data]
  rfl
theorem star_ev (n : List UInt8) (hn : n.length ≤ 1000) : Ev (fun k => glob_Match.f k (⟨#[42]⟩ : ByteArray) (B n)) true := by
  have hp : Ev (fun k => glob_parts.f k (B [42])) ([(⟨#[42]⟩ : ByteArray)], true) := Ev.of (k := 20) (glob_parts.mono _) (by kernel_rfl)
  have := Match_pos (n := n) hp (fun p hp => by rw [List.mem_singleton.1 hp]; exact good_star) (by decide) hn
  rw [T_pos ((M_star stB oneB st_star).2 ⟨n.length, Nat.le_refl _, by rw [List.drop_length, M]⟩)] at this
  exact this
theorem stars_ev (n : List UInt8) (hn : n.length ≤ 1000) : Ev (fun k => glob_Match.f k (⟨#[42, 42]⟩ : ByteArray) (B n)) true := by
  have hp : Ev (fun k => glob_parts.f k (B [42, 42])) ([(⟨#[42]⟩ : ByteArray), (⟨#[42]⟩ : ByteArray)], true) := Ev.of (k := 20) (glob_parts.mono _) (by kernel_rfl)
  have := Match_pos (n := n) hp (fun p hp => by rw [show p = (⟨#[42]⟩ : ByteArray) by simpa using hp]; exact good_star) (by decide) hn
  rw [T_pos ((M_star stB oneB st_star).2 ⟨n.length, Nat.le_refl _, (M_star stB oneB st_star).2 ⟨0, Nat.zero_le _, by rw [List.drop_zero, List.drop_length, M]⟩⟩)] at this
  exact this
theorem joins_loop (a b n : List UInt8) (L K : List ByteArray) (hL : Parts a L) (hK : Parts b K) (ha : a.length ≤ 100) (hb : b.length ≤ 100) (hn : n.length ≤ 100) : ∀ (r k : Nat), n.length + 1 = k + r →
    Ev (fun q => wainwrightlaw28_GlobJoins.l0 q (B a) (B b) (B n) (T (∃ j, j < k ∧ M stB oneB L (n.take j) ∧ M stB oneB K (n.drop j))) (k : Int)) true
  | 0, k, h => by
    have hk : k = n.length + 1 := by omega
    have mab := Match_pos (n := n) (hL.app hK (by omega) (by omega)) (fun p hp => by rcases List.mem_append.1 hp with hp | hp; exact hL.1 p hp; exact hK.1 p hp) (by have := hL.2.1; have := hK.2.1; rw [List.length_append]; omega) (by omega)
    have e : T (M stB oneB (L ++ K) n) = T (∃ j, j < k ∧ M stB oneB L (n.take j) ∧ M stB oneB K (n.drop j)) := T_iff (by
      rw [M_app]
      exact ⟨fun ⟨j, h1, h2⟩ => ⟨j, by omega, h2⟩, fun ⟨j, h1, h2⟩ => ⟨j, by omega, h2⟩⟩)
    rw [e] at mab
    generalize T (∃ j, j < k ∧ M stB oneB L (n.take j) ∧ M stB oneB K (n.drop j)) = w at mab ⊢
    refine Ev.step (f := fun q => (glob_Match.f q (B (a ++ b)) (B n)).bind fun t => (if (t == w) = true then ((glob_Match.f q (⟨#[42]⟩ : ByteArray) (B n)).bind fun t2 => (if t2 = true then ((glob_Match.f q (⟨#[42, 42]⟩ : ByteArray) (B n)).bind fun t3 => (some t3)) else (some false))) else (some false))) (fun q => ?_) ?_
    · simp only [wainwrightlaw28_GlobJoins.l0]
      rw [if_neg (by rw [B_size]; omega), if_pos (by rw [B_size, B_size]; omega), B_app]
    · refine Ev.bind mab ?_
      simp only [beq_self_eq_true, if_true]
      refine Ev.bind (star_ev n (by omega)) ?_
      simp only [if_true]
      exact Ev.bind (stars_ev n (by omega)) (Ev.now _)
  | r + 1, k, h => by
    have hk : k ≤ n.length := by omega
    have wk : wrap64 ((k : Int) + 1) = ((k + 1 : Nat) : Int) := by rw [wrap_in _ (by omega) (by omega)]; omega
    have ih := joins_loop a b n L K hL hK ha hb hn r (k + 1) (by omega)
    by_cases hw : ∃ j, j < k ∧ M stB oneB L (n.take j) ∧ M stB oneB K (n.drop j)
    · obtain ⟨j, hj, hM⟩ := hw
      rw [T_pos ⟨j, by omega, hM⟩] at ih
      rw [T_pos ⟨j, hj, hM⟩]
      refine Ev.step (f := fun q => wainwrightlaw28_GlobJoins.l0 q (B a) (B b) (B n) true ((k + 1 : Nat) : Int)) (fun q => ?_) ih
      simp only [wainwrightlaw28_GlobJoins.l0]
      rw [if_pos (by rw [B_size]; omega), if_pos trivial, wk]
    · rw [T_neg hw]
      have ma := Match_pos (n := n.take k) (hL.now (by omega)) hL.1 (by have := hL.2.1; omega) (by rw [List.length_take]; omega)
      have mb := Match_pos (n := n.drop k) (hK.now (by omega)) hK.1 (by have := hK.2.1; omega) (by rw [List.length_drop]; omega)
      refine Ev.step (f := fun q => (glob_Match.f q (B a) (B (n.take k))).bind fun t => (if t = true then ((glob_Match.f q (B b) (B (n.drop k))).bind fun t2 => (wainwrightlaw28_GlobJoins.l0 q (B a) (B b) (B n) t2 ((k + 1 : Nat) : Int))) else (wainwrightlaw28_GlobJoins.l0 q (B a) (B b) (B n) false ((k + 1 : Nat) : Int)))) (fun q => ?_) ?_
      · simp only [wainwrightlaw28_GlobJoins.l0]
        rw [if_pos (by rw [B_size]; omega), if_neg (by decide), if_pos (by omega), wk, Int.toNat_natCast, ext_B, ext_B, B_size, List.take_length, List.drop_zero]
      · refine Ev.bind ma ?_
        have step : ∀ v : Bool, v = T (∃ j, j < k + 1 ∧ M stB oneB L (n.take j) ∧ M stB oneB K (n.drop j)) → Ev (fun q => wainwrightlaw28_GlobJoins.l0 q (B a) (B b) (B n) v ((k + 1 : Nat) : Int)) true := fun v hv => by rw [hv]; exact ih
        by_cases hA : M stB oneB L (n.take k)
        · simp only [T_pos hA, if_true]
          refine Ev.bind mb ?_
          refine step _ (T_iff ⟨fun hB => ⟨k, by omega, hA, hB⟩, fun ⟨j, hj, h1, h2⟩ => ?_⟩)
          by_cases hjk : j = k
          · subst hjk; exact h2
          · exact absurd ⟨j, by omega, h1, h2⟩ hw
        · simp only [T_neg hA, Bool.false_eq_true, if_false]
          refine step _ (T_neg (fun ⟨j, hj, h1, h2⟩ => ?_)).symm
          by_cases hjk : j = k
          · subst hjk; exact hA h1
          · exact hw ⟨j, by omega, h1, h2⟩
theorem GlobJoins : wainwrightlaw28_GlobJoins.Pure := by
  intro a b n _ _ _
  apply Ev.rounds (g := fun k => wainwrightlaw28_GlobJoins.f k a b n)
  unfold wainwrightlaw28_GlobJoins.f
  refine Ev.bind lives_ev ?_
  simp only [if_true, early_eq, Option.bind_some]
  obtain ⟨la, ha⟩ : ∃ l, l = a.data.toList.take 100 := ⟨_, rfl⟩
  obtain ⟨lb, hb⟩ : ∃ l, l = b.data.toList.take 100 := ⟨_, rfl⟩
  obtain ⟨ln, hn⟩ : ∃ l, l = n.data.toList.take 100 := ⟨_, rfl⟩
  rw [← ha, ← hb, ← hn]
  have ha1 : la.length ≤ 100 := by rw [ha, List.length_take]; omega
  have hb1 : lb.length ≤ 100 := by rw [hb, List.length_take]; omega
  have hn1 : ln.length ≤ 100 := by rw [hn, List.length_take]; omega
  have bad : Ev (fun k => wainwrightlaw28_GlobJoins.j0 k (B la) (B lb) (B ln) true) true := by
    refine Ev.step (f := fun k => (glob_Match.f k (⟨#[42]⟩ : ByteArray) (B ln)).bind fun t => some t) (fun k => ?_) (Ev.bind (star_ev ln (by omega)) (Ev.now _))
    simp only [wainwrightlaw28_GlobJoins.j0]
    rw [if_pos trivial]
  rcases parts_or la (by omega) with ⟨L, hL⟩ | h
  · refine Ev.bind (right_pos hL (by omega)) ?_
    simp only [if_true]
    rcases parts_or lb (by omega) with ⟨K, hK⟩ | h
    · refine Ev.bind (right_pos hK (by omega)) ?_
      refine Ev.step (f := fun k => wainwrightlaw28_GlobJoins.l0 k (B la) (B lb) (B ln) false ((0 : Nat) : Int)) (fun k => ?_) ?_
      · simp only [wainwrightlaw28_GlobJoins.j0, Bool.not_true]
        rw [if_neg (by decide)]
        rfl
      · have := joins_loop la lb ln L K hL hK ha1 hb1 hn1 (ln.length + 1) 0 (by omega)
        rwa [T_neg (fun ⟨j, h, _⟩ => by omega)] at this
    · refine Ev.bind (right_neg h) ?_
      exact bad
  · refine Ev.bind (right_neg h) ?_
    simp only [Bool.false_eq_true, if_false]
    exact bad
theorem GlobJoins_walk (a0 a1 a2 : ByteArray) (w : World) (w0 : a0.size ≤ 140737488351232) (w1 : a1.size ≤ 140737488351232) (w2 : a2.size ≤ 140737488351232) :
    Calls Tryd.prog 4 #[.string a0, .string a1, .string a2] w fun e w' => e = .returned (.bool true) ∧ Below w.heap.size w w' := wainwrightlaw28_GlobJoins.walk GlobJoins a0 a1 a2 w w0 w1 w2
end Go.Proofs.YtefomcoimbnalaaDoor.Pure
