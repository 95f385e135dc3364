/- The plain law behind GlobPlain: a pattern that is plain stands for one name alone; one without a sign for itself. Conditions: none. -/
import Derived.Test.YtefomcoimbnalaaDoorPureGlob
import Derived.Test.YtefomcoimbnalaaDoorGGlpx5
namespace Go.Proofs.YtefomcoimbnalaaDoor.Pure
open Go.RowKit Go.Proofs.YtefomcoimbnalaaDoor.GGlp Go.Proofs.YtefomcoimbnalaaDoorW.PrintWords Go.Proofs.YtefomcoimbnalaaDoorW.PrintLast Go.Proofs.YtefomcoimbnalaaDoorW.PrintMore Go.Proofs.YtefomcoimbnalaaDoor.Plain
theorem lives_ev : Ev (fun k => wainwrightlaw28_lives.f k) true := Ev.of (k := 60) wainwrightlaw28_lives.mono (by kernel_rfl)
theorem early_eq (x : ByteArray) : wainwrightlaw28_early.f x = some (B (x.data.toList.take 100)) := by
  unfold wainwrightlaw28_early.f
  have hs : x.size = x.data.toList.length := Lib.size_eq x
  have hm : mn (x.size : Int) 100 = ((min x.size 100 : Nat) : Int) := by unfold mn; split <;> omega
  rw [hm, if_pos (by omega), if_pos (by omega), Int.toNat_natCast]
  congr 1
  conv => lhs; rw [← B_of x]
  rw [ext_B, List.drop_zero, B_size]
  by_cases h : x.data.toList.length ≤ 100
  · rw [List.take_of_length_le (show x.data.toList.length ≤ 100 from h), List.take_of_length_le (by omega)]
  · rw [show min x.data.toList.length 100 = 100 by omega]
theorem Ev.one_value {α : Type} {g : Nat → Option α} {a b : α} (h : Ev g a) (k : Ev g b) : a = b := by
  obtain ⟨K, hK⟩ := h
  obtain ⟨J, hJ⟩ := k
  have := (hK (max K J) (Nat.le_max_left _ _)).symm.trans (hJ (max K J) (Nat.le_max_right _ _))
  exact Option.some.inj this
/-- A part that is no sign: it stands for its last byte. -/
def Dull (p : ByteArray) : Prop := Good p ∧ ∃ d, p.data.toList.head? = some d ∧ d ≠ 42 ∧ d ≠ 63 ∧ d ≠ 91
theorem idx3 (d : UInt8) : ¬ 0 ≤ Lib.indexByte [42, 63, 91] d → d ≠ 42 ∧ d ≠ 63 ∧ d ≠ 91 := by
  intro h
  refine ⟨?_, ?_, ?_⟩ <;> (rintro rfl; exact h (by decide))
theorem bt0 (p : ByteArray) (d : UInt8) (h : p.data.toList.head? = some d) : bt p 0 = (d.toNat : Int) := by
  conv => lhs; rw [← B_of p]
  cases hl : p.data.toList with
  | nil => rw [hl] at h; cases h
  | cons c t =>
    rw [hl, List.head?_cons] at h
    rw [bt_B0, Option.some.inj h]
theorem dull_star {p : ByteArray} (h : Dull p) : stB p = false := by
  obtain ⟨_, d, hd, h42, _⟩ := h
  unfold stB
  rw [Lib.toList_data, beq_eq_false_iff_ne]
  intro e
  rw [e, List.head?_cons] at hd
  exact h42 (Option.some.inj hd).symm
theorem dull_one {p : ByteArray} (h : Dull p) (c : UInt8) : oneB p c = (glob_Plain.last p == c) := by
  obtain ⟨hg, d, hd, _, h63, h91⟩ := h
  have hsz : p.size = p.data.toList.length := Lib.size_eq p
  have hpos : 0 < p.size := by rw [hsz]; exact List.length_pos_iff.2 hg.1
  have hle := hg.2.1
  have hb := bt0 p d hd
  have hw : wrap64 ((p.size : Int) - 1) = ((p.size - 1 : Nat) : Int) := by rw [wrap_in _ (by omega) (by omega)]; omega
  have hlast := glob_Plain.last_bt p hpos (by omega)
  have ev : Ev (fun k => glob_one.f k p (c.toNat : Int)) (bt p (wrap64 ((p.size : Int) - 1)) == (c.toNat : Int)) := by
    refine Ev.congr (f := fun _ => some (bt p (wrap64 ((p.size : Int) - 1)) == (c.toNat : Int))) (fun k => ?_) (Ev.now _)
    unfold glob_one.f
    rw [if_pos (by omega), if_neg (by rw [hb]; exact u8_ne (d := 63) (n := 63) rfl h63), if_neg (by rw [hb]; exact u8_ne (d := 91) (n := 91) rfl h91), if_pos (by rw [hw]; omega), if_pos (by rw [hw]; omega)]
  rw [Ev.one_value (one_ev p c hg) ev, hlast]
  by_cases e : glob_Plain.last p = c
  · rw [e]; simp
  · rw [beq_eq_false_iff_ne.2 e, beq_eq_false_iff_ne]
    exact fun h => e ((u8_eq _ _).1 h)
theorem M_dull : ∀ (L : List ByteArray) (m : List UInt8), (∀ p ∈ L, Dull p) → (M stB oneB L m ↔ m = L.map glob_Plain.last)
  | [], m, _ => by rw [M]; rfl
  | p :: L, m, h => by
    rw [M_one stB oneB (dull_star (h p (by simp))), List.map_cons]
    constructor
    · rintro ⟨c, cs, rfl, ho, hM⟩
      rw [dull_one (h p (by simp)), beq_iff_eq] at ho
      rw [ho, (M_dull L cs (fun q hq => h q (by simp [hq]))).1 hM]
    · rintro rfl
      exact ⟨_, _, rfl, by rw [dull_one (h p (by simp))]; simp, (M_dull L _ (fun q hq => h q (by simp [hq]))).2 rfl⟩
theorem go_eq : ∀ (L : List ByteArray) (acc : List UInt8), (∀ p ∈ L, Good p) → acc.length + L.length ≤ 1000 →
    glob_Plain.go L acc true = some ((⟨#[]⟩ : ByteArray), false) ∨ (glob_Plain.go L acc true = some (B (acc ++ L.map glob_Plain.last), true) ∧ ∀ p ∈ L, Dull p)
  | [], acc, _, _ => Or.inr ⟨by rw [glob_Plain.go, if_pos rfl]; simp [B], by simp⟩
  | x :: r, acc, hg, hl => by
    have gx := hg x (by simp)
    have hsz : x.size = x.data.toList.length := Lib.size_eq x
    have hpos : 0 < x.size := by rw [hsz]; exact List.length_pos_iff.2 gx.1
    have hle := gx.2.1
    rw [List.length_cons] at hl
    obtain ⟨d, hd⟩ : ∃ d, x.data.toList.head? = some d := by
      cases hh : x.data.toList with
      | nil => exact absurd hh gx.1
      | cons c t => exact ⟨c, rfl⟩
    have hb : (bt x 0).toNat.toUInt8 = d := by rw [bt0 x d hd, Int.toNat_natCast]; simp
    rw [glob_Plain.go, if_pos hpos, if_pos (by omega), if_pos (by omega), hb]
    by_cases hi : 0 ≤ Lib.indexByte [42, 63, 91] d
    · rw [if_pos hi]; exact Or.inl rfl
    · rw [if_neg hi]
      obtain ⟨n1, n2, n3⟩ := idx3 d hi
      rcases go_eq r (acc ++ [glob_Plain.last x]) (fun p hp => hg p (by simp [hp])) (by rw [List.length_append]; simp; omega) with h | ⟨h, hD⟩
      · exact Or.inl h
      · refine Or.inr ⟨by rw [h, List.append_assoc]; rfl, fun p hp => ?_⟩
        rcases List.mem_cons.1 hp with rfl | hp
        · exact ⟨gx, d, hd, n1, n2, n3⟩
        · exact hD p hp
theorem plain_same : ∀ (L : List ByteArray), (∀ p ∈ L, Dull p) → (92 : UInt8) ∉ (L.map (·.data.toList)).flatten → L.map glob_Plain.last = (L.map (·.data.toList)).flatten
  | [], _, _ => rfl
  | p :: L, h, hn => by
    rw [List.map_cons, List.flatten_cons, List.mem_append, not_or] at hn
    rw [List.map_cons, List.map_cons, List.flatten_cons, ← plain_same L (fun q hq => h q (by simp [hq])) hn.2]
    obtain ⟨⟨h0, _, _, h1⟩, d, hd, _, _, h91⟩ := h p (by simp)
    have hlen : p.data.toList.length = 1 := h1 (fun e => hn.1 (by
      cases hh : p.data.toList with
      | nil => exact absurd hh h0
      | cons c t => rw [hh, List.head?_cons] at e; rw [Option.some.inj e]; simp)) (fun e => by rw [hd] at e; exact h91 (Option.some.inj e))
    unfold glob_Plain.last
    match hp : p.data.toList, hlen with
    | [c], _ => rfl
theorem signs_loop (p n s : List UInt8) (L : List ByteArray) (hL : Parts p L) (hD : ∀ q ∈ L, Dull q) (hs : s = L.map glob_Plain.last) (hp : p.length ≤ 100) (hn : n.length ≤ 100) : ∀ (r i : Nat), p.length = i + r →
    Ev (fun q => wainwrightlaw28_GlobPlain.l0 q (B p) (B n) (B s) ((p.take i).contains 92) (i : Int)) true
  | 0, i, h => by
    have hi : i = p.length := by omega
    rw [hi, List.take_length]
    have hLl := hL.2.1
    have hsl : s.length ≤ 100 := by rw [hs, List.length_map]; omega
    have m1 := Match_pos (n := s) (hL.now (by omega)) hL.1 (by omega) (by omega)
    have m2 := Match_pos (n := n) (hL.now (by omega)) hL.1 (by omega) (by omega)
    rw [T_pos ((M_dull L s hD).2 hs)] at m1
    have e2 : T (M stB oneB L n) = (n == s) := by
      by_cases e : n = s
      · rw [T_pos ((M_dull L n hD).2 (e.trans hs)), e]; simp
      · rw [T_neg (fun h => e (((M_dull L n hD).1 h).trans hs.symm)), beq_eq_false_iff_ne.2 e]
    rw [e2] at m2
    refine Ev.step (f := fun q => (glob_Match.f q (B p) (B s)).bind fun t => (if t = true then ((glob_Match.f q (B p) (B n)).bind fun t2 => (if ((n == s) == t2) = true then (if (p.contains 92) = true then (some true) else (some (s == p))) else (some false))) else (some false))) (fun q => ?_) ?_
    · simp only [wainwrightlaw28_GlobPlain.l0]
      rw [if_neg (by rw [B_size]; omega), B_list, B_list, B_list]
    · refine Ev.bind m1 ?_
      simp only [if_true]
      refine Ev.bind m2 ?_
      simp only [beq_self_eq_true, if_true]
      cases hc : p.contains 92 with
      | true => simp only [if_true]; exact Ev.now _
      | false =>
        simp only [Bool.false_eq_true, if_false]
        have hflat := hL.2.2.2
        have : s = p := by
          rw [hs, plain_same L hD (by rw [← hflat]; intro hm; rw [List.contains_iff_mem.2 hm] at hc; cases hc), ← hflat]
        rw [this]
        simp only [beq_self_eq_true]
        exact Ev.now _
  | r + 1, i, h => by
    have hi : i < p.length := by omega
    have wi : wrap64 ((i : Int) + 1) = ((i + 1 : Nat) : Int) := by rw [wrap_in _ (by omega) (by omega)]; omega
    have ih := signs_loop p n s L hL hD hs hp hn r (i + 1) (by omega)
    have et : p.take (i + 1) = p.take i ++ [p[i]] := by rw [List.take_add_one, List.getElem?_eq_getElem hi]; rfl
    have ec : (p.take (i + 1)).contains 92 = ((p.take i).contains 92 || (p[i] == 92)) := by
      rw [et]
      simp only [List.contains_eq_any_beq, List.any_append, List.any_cons, List.any_nil, Bool.or_false]
      congr 1
      rw [Bool.eq_iff_iff, beq_iff_eq, beq_iff_eq]
      exact ⟨Eq.symm, Eq.symm⟩
    rw [ec] at ih
    cases hc : (p.take i).contains 92 with
    | true =>
      rw [hc, Bool.true_or] at ih
      refine Ev.step (f := fun q => wainwrightlaw28_GlobPlain.l0 q (B p) (B n) (B s) true ((i + 1 : Nat) : Int)) (fun q => ?_) ih
      simp only [wainwrightlaw28_GlobPlain.l0]
      rw [if_pos (by rw [B_size]; omega), if_pos trivial, wi]
    | false =>
      rw [hc, Bool.false_or] at ih
      refine Ev.step (f := fun q => wainwrightlaw28_GlobPlain.l0 q (B p) (B n) (B s) (p[i] == 92) ((i + 1 : Nat) : Int)) (fun q => ?_) ih
      simp only [wainwrightlaw28_GlobPlain.l0]
      have eb : ((p[i].toNat : Int) == 92) = (p[i] == 92) := by
        by_cases e : p[i] = 92
        · rw [e]; rfl
        · rw [beq_eq_false_iff_ne.2 e, beq_eq_false_iff_ne.2 (u8_ne (d := 92) (n := 92) rfl e)]
      rw [if_pos (by rw [B_size]; omega), if_neg (by decide), if_pos (by omega), wi, bt_B p i hi, eb]
theorem GlobPlain : wainwrightlaw28_GlobPlain.Pure := by
  intro a n _ _
  apply Ev.rounds (g := fun k => wainwrightlaw28_GlobPlain.f k a n)
  unfold wainwrightlaw28_GlobPlain.f
  refine Ev.bind lives_ev ?_
  simp only [if_true, early_eq, Option.bind_some]
  obtain ⟨la, ha⟩ : ∃ l, l = a.data.toList.take 100 := ⟨_, rfl⟩
  obtain ⟨ln, hn⟩ : ∃ l, l = n.data.toList.take 100 := ⟨_, rfl⟩
  rw [← ha, ← hn]
  have ha1 : la.length ≤ 100 := by rw [ha, List.length_take]; omega
  have hn1 : ln.length ≤ 100 := by rw [hn, List.length_take]; omega
  have bad : Ev (fun k => glob_Plain.f k (B la)) ((⟨#[]⟩ : ByteArray), false) → Ev (fun k => (glob_Plain.f k (B la)).bind fun b => (if b.2 = true then (wainwrightlaw28_GlobPlain.l0 k (B la) (B ln) b.1 false 0) else (some (b.1.toList == ([] : List UInt8))))) true := by
    intro h
    refine Ev.bind h ?_
    simp only [Bool.false_eq_true, if_false]
    refine Ev.congr (f := fun _ => some true) (fun k => ?_) (Ev.now _)
    rw [Lib.toList_data]
    rfl
  rcases parts_or la (by omega) with ⟨L, hL⟩ | h
  · rcases go_eq L [] hL.1 (by have := hL.2.1; simp; omega) with h | ⟨h, hD⟩
    · apply bad
      unfold glob_Plain.f
      refine Ev.bind (hL.now (by omega)) ?_
      exact Ev.congr (fun k => h) (Ev.now _)
    · have hpl : Ev (fun k => glob_Plain.f k (B la)) (B (L.map glob_Plain.last), true) := by
        unfold glob_Plain.f
        refine Ev.bind (hL.now (by omega)) ?_
        exact Ev.congr (fun k => h) (Ev.now _)
      refine Ev.bind hpl ?_
      simp only [if_true]
      exact signs_loop la ln _ L hL hD rfl ha1 hn1 la.length 0 (by omega)
  · apply bad
    unfold glob_Plain.f
    refine Ev.bind h ?_
    refine Ev.congr (f := fun _ => some ((⟨#[]⟩ : ByteArray), false)) (fun k => ?_) (Ev.now _)
    rw [glob_Plain.go, if_neg (by decide)]
theorem GlobPlain_walk (a0 a1 : ByteArray) (w : World) (w0 : a0.size ≤ 140737488351232) (w1 : a1.size ≤ 140737488351232) :
    Calls Tryd.prog 5 #[.string a0, .string a1] w fun e w' => e = .returned (.bool true) ∧ Below w.heap.size w w' := wainwrightlaw28_GlobPlain.walk GlobPlain a0 a1 w w0 w1
end Go.Proofs.YtefomcoimbnalaaDoor.Pure
