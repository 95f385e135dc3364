/- The plain laws of glob: a pattern's parts, and which names they stand for. Conditions: as the theorems state them. -/
import Derived.Test.YtefomcoimbnalaaDoorPlain
import Derived.Test.YtefomcoimbnalaaDoorGlobM
import Derived.Lib.Strings
import Derived.Test.YtefomcoimbnalaaDoorGGlpx3
import Derived.Test.YtefomcoimbnalaaDoorGGlpx1
namespace Go.Proofs.YtefomcoimbnalaaDoor.Pure
open Go.RowKit Go.Proofs.YtefomcoimbnalaaDoor.GGlp Go.Proofs.YtefomcoimbnalaaDoorW.PrintWords Go.Proofs.YtefomcoimbnalaaDoorW.PrintLast Go.Proofs.YtefomcoimbnalaaDoorW.PrintMore Go.Proofs.YtefomcoimbnalaaDoor.Plain
def B (l : List UInt8) : ByteArray := ⟨l.toArray⟩
theorem B_data (l : List UInt8) : (B l).data.toList = l := rfl
theorem B_of (x : ByteArray) : B x.data.toList = x := by cases x; simp [B]
theorem B_list (l : List UInt8) : (B l).toList = l := by rw [Lib.toList_data, B_data]
theorem B_size (l : List UInt8) : (B l).size = l.length := by rw [Lib.size_eq, B_data]
theorem B_inj {x y : ByteArray} (h : x.data.toList = y.data.toList) : x = y := by rw [← B_of x, h, B_of]
theorem B_app (l m : List UInt8) : B l ++ B m = B (l ++ m) := by
  apply B_inj
  rw [ByteArray.data_append, Array.toList_append, B_data, B_data, B_data]
theorem ext_B (l : List UInt8) (a b : Nat) : (B l).extract a b = B ((l.take b).drop a) := by
  apply B_inj
  rw [B_data, Lib.extract_eq, List.drop_take, B_data]
theorem bt_B (l : List UInt8) (i : Nat) (h : i < l.length) : bt (B l) (i : Int) = (l[i].toNat : Int) := by
  unfold bt
  have h2 : (i : Int).toNat < (B l).size := by rw [B_size, Int.toNat_natCast]; exact h
  rw [dif_pos h2]
  show ((l.toArray[(i : Int).toNat]'_).toNat : Int) = _
  simp
theorem bt_B0 (c : UInt8) (l : List UInt8) : bt (B (c :: l)) 0 = (c.toNat : Int) := bt_B (c :: l) 0 (by simp)
theorem u8_eq (c d : UInt8) : ((c.toNat : Int) = (d.toNat : Int)) ↔ c = d := by
  constructor
  · intro h; exact UInt8.toNat_inj.1 (by omega)
  · intro h; rw [h]
theorem u8_ne {c d : UInt8} {n : Int} (hn : n = (d.toNat : Int)) (h : ¬ c = d) : ¬ (c.toNat : Int) = n := fun e => h ((u8_eq c d).1 (e.trans hn))
theorem pre_B (l p : List UInt8) : strings_HasPrefix.f (B l) (B p) = some (l.take p.length == p && decide (p.length ≤ l.length)) := by
  unfold strings_HasPrefix.f stringslite_HasPrefix.f
  rw [B_size, B_size, B_list]
  by_cases h : (l.length : Int) ≥ (p.length : Int)
  · rw [if_pos h, if_pos (by omega), if_pos (by omega), Option.bind_some, Int.toNat_natCast, ext_B, B_list, List.drop_zero, decide_eq_true (by omega), Bool.and_true]
  · rw [if_neg h, Option.bind_some, decide_eq_false (by omega), Bool.and_false]
theorem idx_app : ∀ (l m : List UInt8) (c : UInt8), ¬ Lib.indexByte l c < 0 → Lib.indexByte (l ++ m) c = Lib.indexByte l c
  | [], m, c, h => absurd (show Lib.indexByte [] c < 0 by simp [Lib.indexByte]) h
  | b :: l, m, c, h => by
    rw [List.cons_append]
    unfold Lib.indexByte
    by_cases hb : (b == c) = true
    · rw [if_pos hb, if_pos hb]
    · rw [if_neg hb, if_neg hb]
      have hl : ¬ Lib.indexByte l c < 0 := by
        intro hl
        have := Lib.indexByte_ge l c
        have h1 : Lib.indexByte l c = -1 := by omega
        apply h
        unfold Lib.indexByte
        rw [if_neg hb, h1, if_pos (by decide)]
        decide
      rw [idx_app l m c hl]
theorem idx_lt : ∀ (l : List UInt8) (c : UInt8), Lib.indexByte l c < l.length
  | [], c => by simp [Lib.indexByte]
  | b :: l, c => by
    have := idx_lt l c
    unfold Lib.indexByte
    simp only [List.length_cons]
    split
    · omega
    · split <;> omega
/-- What a part is good for: it isn't empty, and one that begins with [ has an end. -/
def Good (p : ByteArray) : Prop := p.data.toList ≠ [] ∧ p.size ≤ 1000 ∧ (p.data.toList.head? = some 91 → 2 ≤ p.size) ∧ (p.data.toList.head? ≠ some 92 → p.data.toList.head? ≠ some 91 → p.data.toList.length = 1)
theorem cut_ev (l : List UInt8) (h : l ≠ []) (hl : l.length ≤ 500) :
    (∃ p r, l = p ++ r ∧ p ≠ [] ∧ Good (B p) ∧ (p.head? = some 92 → p.length = 2) ∧ (p.head? ≠ some 92 → p.head? ≠ some 91 → p.length = 1) ∧ ∀ m : List UInt8, m.length ≤ 500 → Ev (fun k => glob_cut.f k (B (l ++ m))) (B p, B (r ++ m), true)) ∨
      Ev (fun k => glob_cut.f k (B l)) (B [], B [], false) := by
  cases l with
  | nil => exact absurd rfl h
  | cons c t =>
    have hz : ∀ m : List UInt8, 0 < (((B (c :: t ++ m)).size : Nat) : Int) := fun m => by rw [B_size]; simp; omega
    have hb0 : ∀ m : List UInt8, bt (B (c :: t ++ m)) 0 = (c.toNat : Int) := fun m => bt_B0 c (t ++ m)
    by_cases h92 : c = 92
    · subst h92
      cases t with
      | nil =>
        right
        have e := hb0 []
        rw [List.append_nil] at e
        unfold glob_cut.f
        refine Ev.congr (f := fun _ => some (B [], B [], false)) (fun k => ?_) (Ev.now _)
        rw [B_size, if_pos (by simp), e, if_pos (by decide), if_pos (by decide)]
        rfl
      | cons d t =>
        left
        refine ⟨[92, d], t, rfl, by simp, ⟨by simp [B_data], by rw [B_size]; simp, by simp [B_data], by simp [B_data]⟩, by simp, by simp, fun m hm => ?_⟩
        unfold glob_cut.f
        refine Ev.congr (f := fun _ => some (B [92, d], B (t ++ m), true)) (fun k => ?_) (Ev.now _)
        rw [if_pos (hz m), hb0 m, if_pos (by decide), B_size, if_neg (by simp; omega), if_pos (by decide), if_pos (by simp; omega), ext_B, ext_B, List.take_length]
        simp
    · by_cases h91 : c = 91
      · subst h91
        -- how much is passed ahead of the end
        obtain ⟨s, hs⟩ : ∃ s : Nat, s = (if t.head? = some 33 then 3 else 2) := ⟨_, rfl⟩
        have hs23 : s = 2 ∨ s = 3 := by rw [hs]; split <;> simp
        have hcut : ∀ m : List UInt8, (t ≠ [] ∨ m = []) → ∀ k, glob_cut.f k (B (91 :: t ++ m)) = glob_cut.j0 k (B (91 :: t ++ m)) (s : Int) := by
          intro m hm k
          unfold glob_cut.f
          have e2 : strings_HasPrefix.f (B (91 :: t ++ m)) (⟨#[91, 33]⟩ : ByteArray) = some (decide (t.head? = some 33)) := by
            have := pre_B (91 :: t ++ m) [91, 33]
            rw [show (B [91, 33]) = (⟨#[91, 33]⟩ : ByteArray) from rfl] at this
            rw [this]
            cases t with
            | nil =>
              rcases hm with hm | rfl
              · exact absurd rfl hm
              · rfl
            | cons d t =>
              congr 1
              by_cases hd : d = 33
              · subst hd; simp
              · simp [hd]
          rw [if_pos (hz m), hb0 m, if_neg (by decide), if_pos (by decide), e2, Option.bind_some, hs]
          by_cases hd : t.head? = some 33
          · rw [decide_eq_true hd, if_pos rfl, if_pos hd]; rfl
          · rw [decide_eq_false hd, if_neg (by decide), if_neg hd]; rfl
        by_cases hlen : (91 :: t).length < s
        · right
          refine Ev.congr (f := fun k => glob_cut.j0 k (B (91 :: t)) (s : Int)) (fun k => by have := hcut [] (Or.inr rfl) k; rwa [List.append_nil] at this) ?_
          refine Ev.step (f := fun _ => some (B [], B [], false)) (fun k => ?_) (Ev.now _)
          simp only [glob_cut.j0]
          rw [B_size, if_pos (by omega)]
          rfl
        · have ht : t ≠ [] := by
            rintro rfl
            simp at hlen
            omega
          by_cases hi : Lib.indexByte ((91 :: t).drop s) 93 < 0
          · right
            refine Ev.congr (f := fun k => glob_cut.j0 k (B (91 :: t)) (s : Int)) (fun k => by have := hcut [] (Or.inr rfl) k; rwa [List.append_nil] at this) ?_
            refine Ev.step (f := fun _ => some (B [], B [], false)) (fun k => ?_) (Ev.now _)
            simp only [glob_cut.j0]
            rw [B_size, if_neg (by omega), if_pos (by omega), if_pos (by omega), Int.toNat_natCast, ext_B, List.take_length, strings_IndexByte.f, Option.bind_some, B_data]
            rw [show ((93 : Int).toNat.toUInt8) = (93 : UInt8) from rfl, if_pos hi]
            rfl
          · left
            obtain ⟨o, ho⟩ : ∃ o : Nat, Lib.indexByte ((91 :: t).drop s) 93 = (o : Int) := ⟨(Lib.indexByte ((91 :: t).drop s) 93).toNat, by omega⟩
            have hol : o < ((91 :: t).drop s).length := by have := idx_lt ((91 :: t).drop s) 93; omega
            rw [List.length_drop] at hol
            have hp : ((91 :: t).take (s + o + 1)).length = s + o + 1 := by rw [List.length_take]; omega
            refine ⟨(91 :: t).take (s + o + 1), (91 :: t).drop (s + o + 1), (List.take_append_drop _ _).symm, ?_, ⟨?_, ?_, ?_, ?_⟩, ?_, ?_, fun m hm => ?_⟩
            · intro e; rw [e] at hp; simp at hp
            · rw [B_data]; intro e; rw [e] at hp; simp at hp
            · rw [B_size, hp]; omega
            · intro _; rw [B_size, hp]; omega
            · intro _ e; rw [B_data, List.take_succ_cons] at e; simp at e
            · intro e; rw [List.take_succ_cons] at e; simp at e
            · intro _ e; rw [List.take_succ_cons] at e; simp at e
            · refine Ev.congr (f := fun k => glob_cut.j0 k (B (91 :: t ++ m)) (s : Int)) (hcut m (Or.inl ht)) ?_
              refine Ev.step (f := fun _ => some (B ((91 :: t).take (s + o + 1)), B ((91 :: t).drop (s + o + 1) ++ m), true)) (fun k => ?_) (Ev.now _)
              simp only [glob_cut.j0]
              have hml : (91 :: t ++ m).length = (91 :: t).length + m.length := List.length_append
              have hdr : (91 :: t ++ m).drop s = (91 :: t).drop s ++ m := List.drop_append_of_le_length (by omega)
              have w1 : wrap64 (wrap64 ((s : Int) + (o : Int)) + 1) = ((s + o + 1 : Nat) : Int) := by rw [wrap_in ((s : Int) + (o : Int)) (by omega) (by omega), wrap_in _ (by omega) (by omega)]; omega
              rw [B_size, if_neg (by omega), if_pos (by omega), if_pos (by omega), Int.toNat_natCast, ext_B, List.take_length, strings_IndexByte.f, Option.bind_some, B_data, hdr]
              rw [show ((93 : Int).toNat.toUInt8) = (93 : UInt8) from rfl, idx_app _ _ _ hi, if_neg hi, ho, w1, if_pos (by omega), if_pos (by omega), Int.toNat_natCast, ext_B, ext_B, List.take_length, List.drop_zero, List.take_append_of_le_length (by omega), List.drop_append_of_le_length (by omega)]
      · left
        refine ⟨[c], t, rfl, by simp, ⟨by simp [B_data], by rw [B_size]; simp, by simp [B_data]; exact fun e => absurd e h91, by simp [B_data]⟩, by simp; exact fun e => absurd e h92, by simp, fun m hm => ?_⟩
        unfold glob_cut.f
        refine Ev.congr (f := fun _ => some (B [c], B (t ++ m), true)) (fun k => ?_) (Ev.now _)
        rw [if_pos (hz m), hb0 m, if_neg (u8_ne (d := 92) (n := 92) rfl h92), if_neg (u8_ne (d := 91) (n := 91) rfl h91), if_pos (by decide), B_size, if_pos (by simp; omega), ext_B, ext_B, List.take_length]
        simp
theorem parts_ev : ∀ (n : Nat) (l : List UInt8), l.length ≤ n → l.length ≤ 500 →
    (∃ L : List ByteArray, (∀ p ∈ L, Good p) ∧ L.length ≤ l.length ∧ (∀ (m : List UInt8) (acc : List ByteArray) (R : List ByteArray × Bool), m.length ≤ 500 → acc.length + l.length ≤ 2000 → Ev (fun k => glob_parts.l0 k (B m) (acc ++ L)) R → Ev (fun k => glob_parts.l0 k (B (l ++ m)) acc) R) ∧ l = (L.map (·.data.toList)).flatten) ∨
      (∀ acc : List ByteArray, acc.length + l.length ≤ 2000 → Ev (fun k => glob_parts.l0 k (B l) acc) ([], false)) := by
  intro n
  induction n with
  | zero =>
    intro l hn _
    obtain rfl : l = [] := List.eq_nil_of_length_eq_zero (by omega)
    exact Or.inl ⟨[], by simp, Nat.le_refl _, fun m acc R _ _ h => by rw [List.append_nil] at h; exact h, rfl⟩
  | succ n ih =>
    intro l hn hl
    by_cases hz : l = []
    · subst hz
      exact Or.inl ⟨[], by simp, Nat.le_refl _, fun m acc R _ _ h => by rw [List.append_nil] at h; exact h, rfl⟩
    · have hlen : 0 < l.length := List.length_pos_iff.2 hz
      rcases cut_ev l hz hl with ⟨p, r, e, hp0, hp, _, _, hc⟩ | hc
      · have hpl : 0 < p.length := List.length_pos_iff.2 hp0
        have hrl : p.length + r.length = l.length := by rw [e, List.length_append]
        have go : ∀ (m : List UInt8) (acc : List ByteArray) (R : List ByteArray × Bool), m.length ≤ 500 → acc.length + l.length ≤ 2000 → Ev (fun k => glob_parts.l0 k (B (r ++ m)) (acc ++ [B p])) R → Ev (fun k => glob_parts.l0 k (B (l ++ m)) acc) R := by
          intro m acc R hm hacc h
          refine Ev.step (f := fun k => (glob_cut.f k (B (l ++ m))).bind fun b => (if b.2.2 = true then (if acc.length < 8796093022208 then (glob_parts.l0 k b.2.1 (acc ++ [b.1])) else (none)) else (some (([] : List ByteArray), false)))) (fun k => ?_) ?_
          · simp only [glob_parts.l0]
            rw [B_list, if_neg (by intro h_; have := (List.append_eq_nil_iff.1 h_).1; exact hz this)]
          · refine Ev.bind (hc m hm) ?_
            simp only [if_true]
            refine Ev.congr (fun k => ?_) h
            rw [if_pos (by omega)]
        rcases ih r (by omega) (by omega) with ⟨L, hL, hLl, h, hf⟩ | h
        · refine Or.inl ⟨B p :: L, fun q hq => ?_, by rw [List.length_cons]; omega, fun m acc R hm hacc hR => go m acc R hm hacc (h m _ R hm (by rw [List.length_append]; simp; omega) ?_), by rw [List.map_cons, List.flatten_cons, ← hf, B_data]; exact e⟩
          · rcases List.mem_cons.1 hq with rfl | hq
            · exact hp
            · exact hL q hq
          · rw [List.append_assoc]; exact hR
        · refine Or.inr fun acc hacc => ?_
          have := go [] acc ([], false) (by simp) hacc (by rw [List.append_nil]; exact h _ (by rw [List.length_append]; simp; omega))
          rwa [List.append_nil] at this
      · refine Or.inr fun acc _ => ?_
        refine Ev.step (f := fun k => (glob_cut.f k (B l)).bind fun b => (if b.2.2 = true then (if acc.length < 8796093022208 then (glob_parts.l0 k b.2.1 (acc ++ [b.1])) else (none)) else (some (([] : List ByteArray), false)))) (fun k => ?_) ?_
        · simp only [glob_parts.l0]
          rw [B_list, if_neg hz]
        · refine Ev.bind hc ?_
          simp only [Bool.false_eq_true, if_false]
          exact Ev.now _
theorem parts_end (L : List ByteArray) : Ev (fun k => glob_parts.l0 k (B []) L) (L, true) := by
  refine Ev.step (f := fun _ => some (L, true)) (fun k => ?_) (Ev.now _)
  simp only [glob_parts.l0]
  rw [B_list, if_pos rfl]
/-- A pattern's parts, where it may be. -/
def Parts (l : List UInt8) (L : List ByteArray) : Prop :=
  (∀ p ∈ L, Good p) ∧ L.length ≤ l.length ∧ (∀ (m : List UInt8) (acc : List ByteArray) (R : List ByteArray × Bool), m.length ≤ 500 → acc.length + l.length ≤ 2000 → Ev (fun k => glob_parts.l0 k (B m) (acc ++ L)) R → Ev (fun k => glob_parts.l0 k (B (l ++ m)) acc) R) ∧ l = (L.map (·.data.toList)).flatten
theorem Parts.now {l : List UInt8} {L : List ByteArray} (h : Parts l L) (hl : l.length ≤ 500) : Ev (fun k => glob_parts.f k (B l)) (L, true) := by
  have := h.2.2.1 [] [] (L, true) (by simp) (by simp; omega) (by rw [List.nil_append]; exact parts_end L)
  rw [List.append_nil] at this
  exact this
theorem Parts.app {l m : List UInt8} {L K : List ByteArray} (h : Parts l L) (g : Parts m K) (hl : l.length ≤ 400) (hm : m.length ≤ 100) : Ev (fun k => glob_parts.f k (B (l ++ m))) (L ++ K, true) := by
  refine h.2.2.1 m [] (L ++ K, true) (by omega) (by simp; omega) ?_
  have := g.2.2.1 [] ([] ++ L) (L ++ K, true) (by simp) (by have := h.2.1; simp; omega) (by rw [List.nil_append]; exact parts_end _)
  rwa [List.append_nil] at this
theorem parts_or (l : List UInt8) (hl : l.length ≤ 500) : (∃ L, Parts l L) ∨ Ev (fun k => glob_parts.f k (B l)) ([], false) := by
  rcases parts_ev l.length l (Nat.le_refl _) hl with ⟨L, h1, h2, h3⟩ | h
  · exact Or.inl ⟨L, h1, h2, h3⟩
  · exact Or.inr (h [] (by simp; omega))
theorem right_pos {l : List UInt8} {L : List ByteArray} (h : Parts l L) (hl : l.length ≤ 500) : Ev (fun k => glob_Right.f k (B l)) true := by
  unfold glob_Right.f
  exact Ev.bind (h.now hl) (Ev.now _)
theorem right_neg {l : List UInt8} (h : Ev (fun k => glob_parts.f k (B l)) ([], false)) : Ev (fun k => glob_Right.f k (B l)) false := by
  unfold glob_Right.f
  exact Ev.bind h (Ev.now _)
theorem among_ex (c : Int) (z : Bool) : ∀ (n : Nat) (l : List UInt8), l.length ≤ n → l.length ≤ 1000 → ∃ b, Ev (fun k => glob_among.l0 k (B l) c z) b := by
  intro n
  induction n with
  | zero =>
    intro l hn _
    obtain rfl : l = [] := List.eq_nil_of_length_eq_zero (by omega)
    refine ⟨z, Ev.step (f := fun _ => some z) (fun k => ?_) (Ev.now _)⟩
    simp only [glob_among.l0]
    rw [B_list, if_pos rfl]
  | succ n ih =>
    intro l hn hl
    by_cases hz : l = []
    · subst hz
      refine ⟨z, Ev.step (f := fun _ => some z) (fun k => ?_) (Ev.now _)⟩
      simp only [glob_among.l0]
      rw [B_list, if_pos rfl]
    · have hlen : 0 < l.length := List.length_pos_iff.2 hz
      have rec_ : ∀ q : Nat, 1 ≤ q → ∃ b, Ev (fun k => glob_among.l0 k ((B l).extract q (B l).size) c z) b := fun q hq => by
        obtain ⟨b, hb⟩ := ih (l.drop q) (by rw [List.length_drop]; omega) (by rw [List.length_drop]; omega)
        refine ⟨b, ?_⟩
        rw [B_size, ext_B, List.take_length]
        exact hb
      have j_ : ∀ (x6 : Int) (d : Bool), (d = true → 3 ≤ l.length) → ∃ b, Ev (fun k => glob_among.j1 k (B l) c z x6 x6 1 d) b := by
        intro x6 d hd
        cases d with
        | true =>
          have h3 := hd rfl
          obtain ⟨b, hb⟩ := rec_ 3 (by omega)
          by_cases g1 : x6 ≤ c
          · by_cases g2 : c ≤ bt (B l) 2
            · refine ⟨!z, Ev.step (f := fun _ => some (!z)) (fun k => ?_) (Ev.now _)⟩
              simp only [glob_among.j1]
              rw [if_pos trivial, if_pos (by rw [B_size]; omega), if_pos g1, if_pos g2]
            · refine ⟨b, Ev.step (f := fun k => glob_among.l0 k ((B l).extract 3 (B l).size) c z) (fun k => ?_) hb⟩
              simp only [glob_among.j1]
              rw [if_pos trivial, if_pos (by rw [B_size]; omega), if_pos g1, if_neg g2, if_pos (by rw [B_size]; omega)]
          · refine ⟨b, Ev.step (f := fun k => glob_among.l0 k ((B l).extract 3 (B l).size) c z) (fun k => ?_) hb⟩
            simp only [glob_among.j1]
            rw [if_pos trivial, if_pos (by rw [B_size]; omega), if_neg g1, if_pos (by rw [B_size]; omega)]
        | false =>
          obtain ⟨b, hb⟩ := rec_ 1 (Nat.le_refl _)
          by_cases g1 : x6 ≤ c
          · by_cases g2 : c ≤ x6
            · refine ⟨!z, Ev.step (f := fun _ => some (!z)) (fun k => ?_) (Ev.now _)⟩
              simp only [glob_among.j1]
              rw [if_neg (by decide), if_pos g1, if_pos g2]
            · refine ⟨b, Ev.step (f := fun k => glob_among.l0 k ((B l).extract 1 (B l).size) c z) (fun k => ?_) hb⟩
              simp only [glob_among.j1]
              rw [if_neg (by decide), if_pos g1, if_neg g2, if_pos (by decide), if_pos (by rw [B_size]; omega)]
              rfl
          · refine ⟨b, Ev.step (f := fun k => glob_among.l0 k ((B l).extract 1 (B l).size) c z) (fun k => ?_) hb⟩
            simp only [glob_among.j1]
            rw [if_neg (by decide), if_neg g1, if_pos (by decide), if_pos (by rw [B_size]; omega)]
            rfl
      by_cases h2 : ((B l).size : Int) > 2
      · have h3 : 3 ≤ l.length := by rw [B_size] at h2; omega
        obtain ⟨b, hb⟩ := j_ (bt (B l) 0) ((bt (B l) 1) == 45) (fun _ => h3)
        refine ⟨b, Ev.step (f := fun k => glob_among.j1 k (B l) c z (bt (B l) 0) (bt (B l) 0) 1 ((bt (B l) 1) == 45)) (fun k => ?_) hb⟩
        simp only [glob_among.l0]
        rw [B_list, if_neg hz, if_pos (by rw [B_size]; omega), if_pos h2, if_pos (by rw [B_size]; omega)]
      · obtain ⟨b, hb⟩ := j_ (bt (B l) 0) false (fun h => by cases h)
        refine ⟨b, Ev.step (f := fun k => glob_among.j1 k (B l) c z (bt (B l) 0) (bt (B l) 0) 1 false) (fun k => ?_) hb⟩
        simp only [glob_among.l0]
        rw [B_list, if_neg hz, if_pos (by rw [B_size]; omega), if_neg h2]
theorem amf_ex (l : List UInt8) (c : Int) (hl : l.length ≤ 1000) : ∃ b, Ev (fun k => glob_among.f k (B l) c) b := by
  unfold glob_among.f strings_CutPrefix.f stringslite_CutPrefix.f
  have hp := pre_B l [33]
  unfold strings_HasPrefix.f at hp
  rw [show (B [33]) = (⟨#[33]⟩ : ByteArray) from rfl] at hp
  cases hh : stringslite_HasPrefix.f (B l) (⟨#[33]⟩ : ByteArray) with
  | none => rw [hh] at hp; cases hp
  | some t =>
    rw [hh, Option.bind_some] at hp
    have hp := Option.some.inj hp
    cases t with
    | true =>
      have hlen : 1 ≤ l.length := by
        have := hp.symm
        simp only [Bool.and_eq_true, decide_eq_true_eq] at this
        exact this.2
      obtain ⟨b, hb⟩ := among_ex c true l.length (l.drop 1) (by rw [List.length_drop]; omega) (by rw [List.length_drop]; omega)
      refine ⟨b, ?_⟩
      simp only [Option.bind_some, if_true]
      refine Ev.congr (f := fun k => glob_among.l0 k (B (l.drop 1)) c true) (fun k => ?_) hb
      rw [if_pos (by decide), if_pos (by rw [B_size]; show (1 : Int) ≤ _; omega), Option.bind_some, Option.bind_some, B_size, ext_B, List.take_length]
      rfl
    | false =>
      obtain ⟨b, hb⟩ := among_ex c false l.length l (Nat.le_refl _) hl
      refine ⟨b, ?_⟩
      simp only [Option.bind_some, Bool.false_eq_true, if_false]
      exact hb
theorem one_ex (p : ByteArray) (c : Int) (hp : Good p) : ∃ b, Ev (fun k => glob_one.f k p c) b := by
  obtain ⟨h0, h1, h2, _⟩ := hp
  have e : p = B p.data.toList := (B_of p).symm
  have hsz : p.size = p.data.toList.length := Lib.size_eq p
  have hpos : 0 < p.size := by rw [hsz]; exact List.length_pos_iff.2 h0
  unfold glob_one.f
  by_cases g1 : bt p 0 = 63
  · refine ⟨true, Ev.congr (f := fun _ => some true) (fun k => ?_) (Ev.now _)⟩
    rw [if_pos (by omega), if_pos g1]
  · have w1 : wrap64 ((p.size : Int) - 1) = ((p.size - 1 : Nat) : Int) := by rw [wrap_in _ (by omega) (by omega)]; omega
    by_cases g2 : bt p 0 = 91
    · have hh : p.data.toList.head? = some 91 := by
        cases hd : p.data.toList with
        | nil => exact absurd hd h0
        | cons d t =>
          rw [e, hd, bt_B0] at g2
          rw [List.head?_cons, (u8_eq d 91).1 g2]
      have h3 := h2 hh
      obtain ⟨b, hb⟩ := amf_ex ((p.data.toList.take (p.size - 1)).drop 1) c (by rw [List.length_drop, List.length_take]; omega)
      refine ⟨b, Ev.congr (f := fun k => (glob_among.f k (B ((p.data.toList.take (p.size - 1)).drop 1)) c).bind fun t => some t) (fun k => ?_) (Ev.bind hb (Ev.now _))⟩
      rw [if_pos (by omega), if_neg g1, if_pos g2, w1, if_pos (by omega), if_pos (by omega), Int.toNat_natCast]
      congr 2
      conv => lhs; rw [e]
      rw [ext_B, B_size]
      rw [← hsz]
    · refine ⟨bt p (wrap64 ((p.size : Int) - 1)) == c, Ev.congr (f := fun _ => some (bt p (wrap64 ((p.size : Int) - 1)) == c)) (fun k => ?_) (Ev.now _)⟩
      rw [if_pos (by omega), if_neg g1, if_neg g2, if_pos (by rw [w1]; omega), if_pos (by rw [w1]; omega)]
open Classical in
noncomputable def oneB (p : ByteArray) (c : UInt8) : Bool := if h : ∃ b, Ev (fun k => glob_one.f k p (c.toNat : Int)) b then Classical.choose h else false
theorem one_ev (p : ByteArray) (c : UInt8) (hp : Good p) : Ev (fun k => glob_one.f k p (c.toNat : Int)) (oneB p c) := by
  have h := one_ex p (c.toNat : Int) hp
  unfold oneB
  rw [dif_pos h]
  exact Classical.choose_spec h
def stB (p : ByteArray) : Bool := p.toList == ([42] : List UInt8)
noncomputable def T (p : Prop) : Bool := @decide p (Classical.propDecidable p)
theorem T_pos {p : Prop} (h : p) : T p = true := by unfold T; exact @decide_eq_true p (Classical.propDecidable p) h
theorem T_neg {p : Prop} (h : ¬ p) : T p = false := by unfold T; exact @decide_eq_false p (Classical.propDecidable p) h
theorem T_iff {p q : Prop} (h : p ↔ q) : T p = T q := by rw [propext h]
theorem gstar : ∀ l : List ByteArray, GStar.l0 l = !(l.all stB)
  | [] => rfl
  | x :: r => by
    rw [GStar.l0, List.all_cons, gstar r]
    unfold stB
    cases h : x.toList == ([42] : List UInt8) with
    | true => simp [bne, h]
    | false => simp [bne, h]
section
variable (L : List ByteArray) (n : List UInt8) (i k f : Nat) (s : Int) (q : Nat)
theorem wrap_nat (i : Nat) (h : i ≤ 1000) : wrap64 ((i : Int) + 1) = ((i + 1 : Nat) : Int) := by rw [wrap_in _ (by omega) (by omega)]; omega
theorem rdOf_at (h : i < L.length) : rdOf ByteArray.empty L (i : Int) = L[i] := by
  unfold rdOf
  rw [Int.toNat_natCast, List.getD_eq_getElem?_getD, List.getElem?_eq_getElem h]
  rfl
theorem l0_in (hi : i < L.length) (hk : k < n.length) : glob_match.l0 (q + 1) L (B n) (i : Int) (k : Int) s (f : Int) = glob_match.j1 q L (B n) (i : Int) (k : Int) s (f : Int) (stB L[i]) := by
  simp only [glob_match.l0]
  rw [if_pos (by rw [B_size]; omega), if_pos (by omega), if_pos (by omega), rdOf_at L i hi]
  rfl
theorem l0_out (hi : ¬ i < L.length) (hk : k < n.length) : glob_match.l0 (q + 1) L (B n) (i : Int) (k : Int) s (f : Int) = glob_match.j1 q L (B n) (i : Int) (k : Int) s (f : Int) false := by
  simp only [glob_match.l0]
  rw [if_pos (by rw [B_size]; omega), if_neg (by omega)]
theorem l0_end (hi : i ≤ L.length) : glob_match.l0 (q + 1) L (B n) (i : Int) (n.length : Int) s (f : Int) = some (!(GStar.l0 (L.drop i))) := by
  simp only [glob_match.l0]
  rw [if_neg (by rw [B_size]; omega), if_pos (by omega), if_pos (by omega), Int.toNat_natCast, GStar.f, Option.bind_some]
theorem j1_star (hi : i ≤ 1000) : glob_match.j1 (q + 1) L (B n) (i : Int) (k : Int) s (f : Int) true = glob_match.l0 q L (B n) ((i + 1 : Nat) : Int) (k : Int) (i : Int) (k : Int) := by
  simp only [glob_match.j1]
  rw [if_pos trivial, wrap_nat i hi]
theorem j1_in (hi : i < L.length) (hk : k < n.length) : glob_match.j1 (q + 1) L (B n) (i : Int) (k : Int) s (f : Int) false = (glob_one.f q L[i] ((n[k].toNat : Nat) : Int)).bind fun t => glob_match.j2 q L (B n) (i : Int) (k : Int) s (f : Int) t := by
  simp only [glob_match.j1]
  rw [if_neg (by decide), if_pos (by omega), if_pos (by omega), if_pos (by omega), if_pos (by rw [B_size]; omega), rdOf_at L i hi, bt_B n k hk]
theorem j1_out (hi : ¬ i < L.length) : glob_match.j1 (q + 1) L (B n) (i : Int) (k : Int) s (f : Int) false = glob_match.j2 q L (B n) (i : Int) (k : Int) s (f : Int) false := by
  simp only [glob_match.j1]
  rw [if_neg (by decide), if_neg (by omega)]
theorem j2_one (hi : i ≤ 1000) (hk : k ≤ 1000) : glob_match.j2 (q + 1) L (B n) (i : Int) (k : Int) s (f : Int) true = glob_match.l0 q L (B n) ((i + 1 : Nat) : Int) ((k + 1 : Nat) : Int) s (f : Int) := by
  simp only [glob_match.j2]
  rw [if_pos trivial, wrap_nat i hi, wrap_nat k hk]
theorem j2_back (t : Nat) (ht : t ≤ 1000) (hf : f ≤ 1000) : glob_match.j2 (q + 1) L (B n) (i : Int) (k : Int) (t : Int) (f : Int) false = glob_match.l0 q L (B n) ((t + 1 : Nat) : Int) ((f + 1 : Nat) : Int) (t : Int) ((f + 1 : Nat) : Int) := by
  simp only [glob_match.j2]
  rw [if_neg (by decide), if_pos (by omega), wrap_nat t ht, wrap_nat f hf]
theorem j2_fail : glob_match.j2 (q + 1) L (B n) (i : Int) (k : Int) (-1) (f : Int) false = some false := by
  simp only [glob_match.j2]
  rw [if_neg (by decide), if_neg (by decide)]
end
section
variable {L : List ByteArray} {n : List UInt8} {i k f : Nat} {s : Int} {R : Bool}
theorem ev_star (hi : i < L.length) (hk : k < n.length) (hL : L.length ≤ 1000) (hst : stB L[i] = true) (h : Ev (fun q => glob_match.l0 q L (B n) ((i + 1 : Nat) : Int) (k : Int) (i : Int) (k : Int)) R) : Ev (fun q => glob_match.l0 q L (B n) (i : Int) (k : Int) s (f : Int)) R := by
  refine Ev.step (fun q => l0_in L n i k f s q hi hk) ?_
  rw [hst]
  exact Ev.step (fun q => j1_star L n i k f s q (by omega)) h
theorem ev_one (hi : i < L.length) (hk : k < n.length) (hL : L.length ≤ 1000) (hn : n.length ≤ 1000) (hg : Good L[i]) (hst : stB L[i] = false) (ho : oneB L[i] n[k] = true) (h : Ev (fun q => glob_match.l0 q L (B n) ((i + 1 : Nat) : Int) ((k + 1 : Nat) : Int) s (f : Int)) R) : Ev (fun q => glob_match.l0 q L (B n) (i : Int) (k : Int) s (f : Int)) R := by
  refine Ev.step (fun q => l0_in L n i k f s q hi hk) ?_
  rw [hst]
  refine Ev.step (fun q => j1_in L n i k f s q hi hk) (Ev.bind (one_ev L[i] n[k] hg) ?_)
  rw [ho]
  exact Ev.step (fun q => j2_one L n i k f s q (by omega) (by omega)) h
theorem ev_miss (hk : k < n.length) (hg : ∀ p ∈ L, Good p) (hm : ∀ hi : i < L.length, stB L[i] = false ∧ oneB L[i] n[k] = false) (h : Ev (fun q => glob_match.j2 q L (B n) (i : Int) (k : Int) s (f : Int) false) R) : Ev (fun q => glob_match.l0 q L (B n) (i : Int) (k : Int) s (f : Int)) R := by
  by_cases hi : i < L.length
  · obtain ⟨h1, h2⟩ := hm hi
    refine Ev.step (fun q => l0_in L n i k f s q hi hk) ?_
    rw [h1]
    refine Ev.step (fun q => j1_in L n i k f s q hi hk) (Ev.bind (one_ev L[i] n[k] (hg _ (List.getElem_mem hi))) ?_)
    rw [h2]
    exact h
  · exact Ev.step (fun q => l0_out L n i k f s q hi hk) (Ev.step (fun q => j1_out L n i k f s q hi) h)
end
theorem lex3 {p : Nat → Nat → Nat → Prop} (h : ∀ a b c, (∀ a' b' c', a' < a → p a' b' c') → (∀ b' c', b' < b → p a b' c') → (∀ c', c' < c → p a b c') → p a b c) : ∀ a b c, p a b c := by
  intro a
  induction a using Nat.strongRecOn with
  | _ a iha =>
    intro b
    induction b using Nat.strongRecOn with
    | _ b ihb =>
      intro c
      induction c using Nat.strongRecOn with
      | _ c ihc => exact h a b c (fun a' b' c' ha => iha a' ha b' c') (fun b' c' hb => ihb b' hb c') ihc
theorem ar1 {L i a : Nat} {s : Int} (ha : L - (s + 1).toNat = a) (h : (s + 1).toNat ≤ i) (hi : i < L) : L - ((i : Int) + 1).toNat < a := by omega
theorem ar2 {i : Nat} {s : Int} (h : s = -1 ∨ ∃ t : Nat, s = (t : Int) ∧ t < i) : (s + 1).toNat ≤ i := by
  rcases h with h | ⟨t, h, hti⟩ <;> omega
theorem match_ev (L : List ByteArray) (n : List UInt8) (hg : ∀ p ∈ L, Good p) (hL : L.length ≤ 1000) (hn : n.length ≤ 1000) :
    ∀ (a b c : Nat), ∀ (i k : Nat) (s : Int) (f : Nat), L.length - (s + 1).toNat = a → n.length - f = b → n.length - k = c → -1 ≤ s → Inv stB oneB L n i k s f →
      Ev (fun q => glob_match.l0 q L (B n) (i : Int) (k : Int) s (f : Int)) (T (M stB oneB L n)) := by
  generalize hR : T (M stB oneB L n) = R
  refine lex3 fun a b c iha ihb ihc i k s f ha hb hc hs hI => ?_
  have hi := hI.1
  have hk := hI.2.1
  by_cases hkn : k < n.length
  · by_cases hm : ∀ hi : i < L.length, stB L[i] = false ∧ oneB L[i] n[k] = false
    · refine ev_miss hkn hg hm ?_
      by_cases h0 : 0 ≤ s
      · obtain ⟨t, rfl⟩ := Int.eq_ofNat_of_zero_le h0
        obtain ⟨hJ, hti, hfk⟩ := hI.back hkn hm
        exact Ev.step (fun q => j2_back L n i k f q t (by omega) (by omega)) (ihb (n.length - (f + 1)) (n.length - (f + 1)) (by omega) (t + 1) (f + 1) (t : Int) (f + 1) ha rfl rfl (by omega) hJ)
      · obtain rfl : s = -1 := by omega
        rw [← hR, T_neg (hI.fail hkn hm)]
        exact Ev.step (fun q => j2_fail L n i k f q) (Ev.now _)
    · obtain ⟨hil, hm⟩ := Classical.not_forall.1 hm
      cases hst : stB L[i] with
      | true =>
        have hsi : (s + 1).toNat ≤ i := ar2 (hI.2.2.imp (fun h => h.1) (fun ⟨t, h, hti, _⟩ => ⟨t, h, hti⟩))
        exact ev_star hil hkn hL hst (iha (L.length - ((i : Int) + 1).toNat) (n.length - k) (n.length - k) (ar1 ha hsi hil) (i + 1) k (i : Int) k rfl rfl rfl (Int.le_trans (by decide) (Int.natCast_nonneg i)) (hI.star hil hst))
      | false =>
        cases ho : oneB L[i] n[k] with
        | true => exact ev_one hil hkn hL hn (hg _ (List.getElem_mem hil)) hst ho (ihc (n.length - (k + 1)) (hc ▸ Nat.sub_lt_sub_left hkn (Nat.lt_succ_self k)) (i + 1) (k + 1) s f ha hb rfl hs (hI.byte hil hkn hst ho))
        | false => exact absurd ⟨hst, ho⟩ hm
  · obtain rfl : k = n.length := by omega
    have hM := hI.stop
    have hr : R = !(GStar.l0 (L.drop i)) := by
      rw [← hR, gstar, Bool.not_not, T_iff hM]
      cases hall : (L.drop i).all stB with
      | true => exact T_pos rfl
      | false => exact T_neg (by decide)
    rw [hr]
    exact Ev.step (fun q => l0_end L n i f s q hi) (Ev.now _)
theorem matchf_ev (L : List ByteArray) (n : List UInt8) (hg : ∀ p ∈ L, Good p) (hL : L.length ≤ 1000) (hn : n.length ≤ 1000) : Ev (fun q => glob_match.f q L (B n)) (T (M stB oneB L n)) :=
  match_ev L n hg hL hn _ _ _ 0 0 (-1) 0 rfl rfl rfl (by omega) Inv.start
theorem Match_pos {l n : List UInt8} {L : List ByteArray} (h : Ev (fun k => glob_parts.f k (B l)) (L, true)) (hg : ∀ p ∈ L, Good p) (hL : L.length ≤ 1000) (hn : n.length ≤ 1000) : Ev (fun k => glob_Match.f k (B l) (B n)) (T (M stB oneB L n)) := by
  unfold glob_Match.f
  refine Ev.bind h ?_
  simp only [if_true]
  exact Ev.bind (matchf_ev L n hg hL hn) (Ev.now _)
theorem Match_neg {l : List UInt8} (n : List UInt8) (h : Ev (fun k => glob_parts.f k (B l)) ([], false)) : Ev (fun k => glob_Match.f k (B l) (B n)) false := by
  unfold glob_Match.f
  refine Ev.bind h ?_
  simp only [Bool.false_eq_true, if_false]
  exact Ev.now _
end Go.Proofs.YtefomcoimbnalaaDoor.Pure
