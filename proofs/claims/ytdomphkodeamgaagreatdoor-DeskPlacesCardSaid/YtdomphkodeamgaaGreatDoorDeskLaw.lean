/- The law DeskPlaces, walked, what its closed calls (lives, begin, Make, Stat) do given: at every row of numbers. Conditions: as the theorems state them. -/
import Derived.Test.YtdomphkodeamgaaGreatDoorDeskP
namespace Go.Proofs.YtdomphkodeamgaaGreatDoor.DeskP
open Go Go.RowKit
set_option maxRecDepth 100000
set_option maxHeartbeats 16000000
abbrev fpath : ByteArray := ⟨#[47, 102]⟩
/-- a house that stands in the blocks Fr while Hs holds: what Stat answers there -/
structure House (hv : Value) (Fr : Nat → Prop) (Hs : World → Prop) (id x y : Int) : Prop where
  keep : ∀ u u' : World, Hs u → (∀ c, Fr c → u'.heap[c]? = u.heap[c]?) → Hs u'
  lt : ∀ u, Hs u → ∀ c, Fr c → c < u.heap.size
  stat : ∀ u, Hs u → Calls Tryz.prog 20 #[hv, .string fpath] u fun e w' => e = .returned (.tuple #[.agg #[.int .i64 id, .int .i64 1, .int .i64 x, .int .i64 y], .int .i64 0]) ∧ Hs w' ∧ u.heap.size ≤ w'.heap.size ∧ (∀ c, c < u.heap.size → ¬ Fr c → w'.heap[c]? = u.heap[c]?) ∧ w'.os = u.os ∧ w'.tape = u.tape ∧ w'.output = u.output
def BoolsAt (w : World) (U : Nat) (us : Nat → Bool) : Prop := w.heap[U]? = some (.cells #[.bool (us 0), .bool (us 1), .bool (us 2), .bool (us 3), .bool (us 4), .bool (us 5), .bool (us 6), .bool (us 7)] 31 (0, 0))
def updB (us : Nat → Bool) (k : Nat) (b : Bool) : Nat → Bool := fun j => if j = k then b else us j
section
variable {w w' : World} {U : Nat} {us : Nat → Bool}
theorem BoolsAt.cell (h : BoolsAt w U us) {j : Nat} (hj : j < 8) : w.cell? ⟨U, j, none⟩ = some (.bool (us j)) := by
  rw [cell_of_row _ _ _ _ _ _ h]
  rcases lt8 hj with rfl | rfl | rfl | rfl | rfl | rfl | rfl | rfl <;> rfl
theorem BoolsAt.soft (h : BoolsAt w U us) (j : Nat) : w.frozen? ⟨U, j, none⟩ = false := by
  simp only [World.frozen?, show w.heap[U]? = _ from h]
  simp
theorem BoolsAt.same (h : BoolsAt w U us) (e : w'.heap[U]? = w.heap[U]?) : BoolsAt w' U us := e.trans h
theorem BoolsAt.lt (h : BoolsAt w U us) : U < w.heap.size := (Array.getElem?_eq_some_iff.1 h).1
theorem BoolsAt.put (h : BoolsAt w U us) {k : Nat} (hk : k < 8) (b : Bool) : BoolsAt (w.setCell ⟨U, k, none⟩ (.bool b)) U (updB us k b) := by
  refine (set_same _ _ _ _ _ _ _ h).trans ?_
  rcases lt8 hk with rfl | rfl | rfl | rfl | rfl | rfl | rfl | rfl <;> rfl
end
theorem set_other (w : World) (a : Addr) (c : Nat) (v : Value) (h : c ≠ a.block) : (w.setCell a v).heap[c]? = w.heap[c]? := by
  simp only [World.setCell, Array.getElem?_modify]
  rw [if_neg (fun e => h e.symm)]
theorem set_size (w : World) (a : Addr) (v : Value) : (w.setCell a v).heap.size = w.heap.size := by simp [World.setCell]
/-- the law's state: the desk's places ds, the law's own row us -/
structure St (hv : Value) (Fr : Nat → Prop) (Hs : World → Prop) (W0 : World) (D U : Nat) (u : World) (ds us : Nat → Bool) : Prop where
  bel : Below W0.heap.size W0 u
  hs : Hs u
  desk : ∃ ps, DeskAt u D hv ps ∧ ∀ j, j < 8 → (ps j).isSome = ds j
  used : BoolsAt u U us
  fD : ¬ Fr D
  fU : ¬ Fr U
  ne : D ≠ U
  hF : ∀ c, Fr c → W0.heap.size ≤ c
  hD : W0.heap.size ≤ D
  hU : W0.heap.size ≤ U
section
variable {hv : Value} {Fr : Nat → Prop} {Hs : World → Prop} {id x y : Int} {W0 u w' : World} {D U : Nat} {ds us : Nat → Bool}
/-- all but the house's blocks and the desk as it was -/
theorem St.move (HH : House hv Fr Hs id x y) (s : St hv Fr Hs W0 D U u ds us) {ds' : Nat → Bool} (hs : Hs w') (hd : ∃ ps, DeskAt w' D hv ps ∧ ∀ j, j < 8 → (ps j).isSome = ds' j) (hsz : u.heap.size ≤ w'.heap.size)
    (hk : ∀ c, c < u.heap.size → ¬ Fr c → c ≠ D → w'.heap[c]? = u.heap[c]?) (e1 : w'.os = u.os) (e2 : w'.tape = u.tape) (e3 : w'.output = u.output) : St hv Fr Hs W0 D U w' ds' us := by
  refine ⟨⟨e1.trans s.bel.os, e2.trans s.bel.tape, e3.trans s.bel.output, Nat.le_trans s.bel.size hsz, fun c hc => ?_⟩, hs, hd, s.used.same (hk U s.used.lt s.fU (fun e => s.ne e.symm)), s.fD, s.fU, s.ne, s.hF, s.hD, s.hU⟩
  rw [hk c (Nat.lt_of_lt_of_le hc s.bel.size) (fun hf => absurd (s.hF c hf) (by omega)) (fun e => absurd s.hD (by omega))]
  exact s.bel.block c hc
theorem St.below (HH : House hv Fr Hs id x y) (s : St hv Fr Hs W0 D U u ds us) (hb : Below u.heap.size u w') : St hv Fr Hs W0 D U w' ds us := by
  refine s.move HH (HH.keep u w' s.hs (fun c hc => hb.block c (HH.lt u s.hs c hc))) ?_ hb.size (fun c hc _ _ => hb.block c hc) hb.os hb.tape hb.output
  obtain ⟨ps, hd, hp⟩ := s.desk
  exact ⟨ps, hd.same (hb.block _ hd.lt), hp⟩
theorem St.put (HH : House hv Fr Hs id x y) (s : St hv Fr Hs W0 D U u ds us) {k : Nat} (hk : k < 8) (q : Option Addr) (b : Bool) (hq : q.isSome = b) : St hv Fr Hs W0 D U (u.setCell ⟨D, 1 + k, none⟩ (.pointer q)) (updB ds k b) us := by
  refine s.move HH (HH.keep u _ s.hs (fun c hc => set_other _ _ _ _ (fun e => s.fD (by rw [show c = D from e] at hc; exact hc)))) ?_ (Nat.le_of_eq (set_size _ _ _).symm) (fun c _ _ hc => set_other _ _ _ _ hc) rfl rfl rfl
  obtain ⟨ps, hd, hp⟩ := s.desk
  refine ⟨upd ps k q, hd.put hk q, fun j hj => ?_⟩
  unfold upd updB
  by_cases e : j = k
  · rw [if_pos e, if_pos e, hq]
  · rw [if_neg e, if_neg e, hp j hj]
theorem St.putU (HH : House hv Fr Hs id x y) (s : St hv Fr Hs W0 D U u ds us) {k : Nat} (hk : k < 8) (b : Bool) : St hv Fr Hs W0 D U (u.setCell ⟨U, k, none⟩ (.bool b)) ds (updB us k b) := by
  have hsz := set_size u ⟨U, k, none⟩ (.bool b)
  obtain ⟨ps, hd, hp⟩ := s.desk
  refine ⟨⟨s.bel.os, s.bel.tape, s.bel.output, by rw [hsz]; exact s.bel.size, fun c hc => ?_⟩, HH.keep u _ s.hs (fun c hc => set_other _ _ _ _ (fun e => s.fU (by rw [show c = U from e] at hc; exact hc))), ⟨ps, hd.same (set_other _ _ _ _ s.ne), hp⟩, s.used.put hk b, s.fD, s.fU, s.ne, s.hF, s.hD, s.hU⟩
  rw [set_other _ _ _ _ (show c ≠ U from fun e => absurd s.hU (by omega))]
  exact s.bel.block c hc
/-- Stat, in the law's state -/
theorem St.stat (HH : House hv Fr Hs id x y) (s : St hv Fr Hs W0 D U u ds us) (ps : Nat → Option Addr) (hd : DeskAt u D hv ps) (hp : ∀ j, j < 8 → (ps j).isSome = ds j) :
    Calls Tryz.prog 20 #[hv, .string fpath] u fun e w' => e = .returned (.tuple #[.agg #[.int .i64 id, .int .i64 1, .int .i64 x, .int .i64 y], .int .i64 0]) ∧ DeskAt w' D hv ps ∧ St hv Fr Hs W0 D U w' ds us := by
  refine (HH.stat u s.hs).mono ?_
  rintro e w' ⟨rfl, h1, h2, h3, h4, h5, h6⟩
  have hd' := hd.same (h3 D hd.lt s.fD)
  exact ⟨rfl, hd', s.move HH h1 ⟨ps, hd', hp⟩ h2 (fun c hc hf _ => h3 c hc hf) h4 h5 h6⟩
theorem s_open (HH : House hv Fr Hs id x y) (s : St hv Fr Hs W0 D U u ds us) (k : Nat) (hk : k < 8) (hp : ds k = false) (hq : ∀ j, j < k → ds j = true) :
    Calls Tryz.prog 8 #[.pointer (some ⟨D, 0, none⟩), .string fpath] u fun e w' => e = .returned (.tuple #[.int .i64 (k : Int), .int .i64 0]) ∧ St hv Fr Hs W0 D U w' (updB ds k true) us := by
  obtain ⟨ps, hd, h⟩ := s.desk
  have hn : ps k = none := by
    have := h k hk
    rw [hp] at this
    exact Option.isNone_iff_eq_none.1 (by simpa using this)
  refine (open_ok D hv ps fpath id x y k hk hn (fun j hj => (h j (by omega)).trans (hq j hj)) u hd (fun w => DeskAt w D hv ps ∧ St hv Fr Hs W0 D U w ds us) (fun _ h => h.1) (s.stat HH ps hd h)).mono ?_
  rintro e w' ⟨rfl, w1, w2, a, ⟨_, h1⟩, h2, rfl⟩
  exact ⟨rfl, (h1.below HH h2).put HH hk (some a) true rfl⟩
theorem s_full (HH : House hv Fr Hs id x y) (s : St hv Fr Hs W0 D U u ds us) (hq : ∀ j, j < 8 → ds j = true) :
    Calls Tryz.prog 8 #[.pointer (some ⟨D, 0, none⟩), .string fpath] u fun e w' => e = .returned (.tuple #[.int .i64 0, .int .i64 12]) ∧ St hv Fr Hs W0 D U w' ds us := by
  obtain ⟨ps, hd, h⟩ := s.desk
  refine (open_full D hv ps fpath id x y (fun j hj => (h j hj).trans (hq j hj)) u hd (fun w => DeskAt w D hv ps ∧ St hv Fr Hs W0 D U w ds us) (fun _ h => h.1) (s.stat HH ps hd h)).mono ?_
  rintro e w' ⟨rfl, w1, ⟨_, h1⟩, h2⟩
  exact ⟨rfl, h1.below HH h2⟩
theorem s_close (HH : House hv Fr Hs id x y) (s : St hv Fr Hs W0 D U u ds us) (k : Nat) (hk : k < 8) (hp : ds k = true) :
    Calls Tryz.prog 7 #[.pointer (some ⟨D, 0, none⟩), .int .i64 (k : Int)] u fun e w' => e = .returned (.int .i64 0) ∧ St hv Fr Hs W0 D U w' (updB ds k false) us := by
  obtain ⟨ps, hd, h⟩ := s.desk
  obtain ⟨a, ha⟩ := Option.isSome_iff_exists.1 ((h k hk).trans hp)
  refine (close_ok D hv ps k hk a ha u hd).mono ?_
  rintro e w' ⟨rfl, w1, h1, rfl⟩
  exact ⟨rfl, (s.below HH h1).put HH hk none false rfl⟩
theorem s_shut (HH : House hv Fr Hs id x y) (s : St hv Fr Hs W0 D U u ds us) (k : Nat) (hk : k < 8) (hp : ds k = false) :
    Calls Tryz.prog 7 #[.pointer (some ⟨D, 0, none⟩), .int .i64 (k : Int)] u fun e w' => e = .returned (.int .i64 1) ∧ St hv Fr Hs W0 D U w' ds us := by
  obtain ⟨ps, hd, h⟩ := s.desk
  have hn : ps k = none := by
    have := h k hk
    rw [hp] at this
    exact Option.isNone_iff_eq_none.1 (by simpa using this)
  refine (close_bad D hv ps k hk hn u hd).mono ?_
  rintro e w' ⟨rfl, h1⟩
  exact ⟨rfl, s.below HH h1⟩
theorem cnt_congr (a b : Nat → Bool) : ∀ i, (∀ j, j < i → a j = b j) → cnt a i = cnt b i
  | 0, _ => rfl
  | i + 1, h => by simp only [cnt]; rw [cnt_congr a b i (fun j hj => h j (by omega)), h i (by omega)]
theorem s_count (HH : House hv Fr Hs id x y) (s : St hv Fr Hs W0 D U u ds us) :
    Calls Tryz.prog 9 #[.pointer (some ⟨D, 0, none⟩)] u fun e w' => e = .returned (.int .i64 (cnt ds 8)) ∧ St hv Fr Hs W0 D U w' ds us := by
  obtain ⟨ps, hd, h⟩ := s.desk
  refine (count_calls D hv ps u hd).mono ?_
  rintro e w' ⟨rfl, h1⟩
  exact ⟨by rw [cnt_congr _ ds 8 h], s.below HH h1⟩
end
theorem cnt_set (us : Nat → Bool) (k : Nat) (h : us k = false) : ∀ i, cnt (updB us k true) i = cnt us i + (if k < i then 1 else 0)
  | 0 => rfl
  | i + 1 => by
    have ih := cnt_set us k h i
    simp only [cnt]
    rw [ih]
    unfold updB
    by_cases e : i = k
    · subst e; simp [h]
    · have hk : (k < i + 1) = (k < i) := propext (by omega)
      simp only [e, if_false, hk]
      omega
theorem cnt_unset (us : Nat → Bool) (k : Nat) (h : us k = true) : ∀ i, cnt (updB us k false) i + (if k < i then 1 else 0) = cnt us i
  | 0 => rfl
  | i + 1 => by
    have ih := cnt_unset us k h i
    simp only [cnt]
    rw [← ih]
    unfold updB
    by_cases e : i = k
    · subst e; simp [h]
    · have hk : (k < i + 1) = (k < i) := propext (by omega)
      simp only [e, if_false, hk]
      omega
/-- numbers in a row of cells -/
def IRow (w : World) (A : Option Addr) (l : List Int) : Prop := ∀ (j : Nat) (x : Int), l[j]? = some x → ∃ b o : Nat, A = some ⟨b, o, none⟩ ∧ w.cell? ⟨b, o + j, none⟩ = some (.int .i64 x)
theorem row_at {W0 u : World} {A : Option Addr} {l : List Int} (h : IRow W0 A l) (hb : Below W0.heap.size W0 u) (j : Nat) (x : Int) (hj : l[j]? = some x) : ∃ b o : Nat, A = some ⟨b, o, none⟩ ∧ u.cell? ⟨b, o + j, none⟩ = some (.int .i64 x) := by
  obtain ⟨b, o, e, hc⟩ := h j x hj
  exact ⟨b, o, e, cell_below hb hc⟩
/-- behind Make: the house, the desk without places -/
structure Ready (two : Bool) (W0 w : World) (h : Addr) (D : Nat) (Fr : Nat → Prop) (Hs : World → Prop) (id x y : Int) : Prop where
  house : House (.pointer (some h)) Fr Hs id x y
  bel : Below W0.heap.size W0 w
  hs : Hs w
  desk : DeskAt w D (.pointer (some h)) (fun _ => none)
  fD : ¬ Fr D
  hF : ∀ c, Fr c → W0.heap.size ≤ c
  hD : W0.heap.size ≤ D
theorem Ready.first {two : Bool} {W0 w : World} {h : Addr} {D : Nat} {Fr : Nat → Prop} {Hs : World → Prop} {id x y : Int} (r : Ready two W0 w h D Fr Hs id x y) :
    St (.pointer (some h)) Fr Hs W0 D w.heap.size (w.alloc (.cells #[.bool false, .bool false, .bool false, .bool false, .bool false, .bool false, .bool false, .bool false] 31)) (fun _ => false) (fun _ => false) := by
  have hlt := r.desk.lt
  refine ⟨r.bel.alloc r.bel.size _, r.house.keep w _ r.hs (fun c hc => heap_alloc_old _ _ (r.house.lt w r.hs c hc)), ⟨_, r.desk.same (heap_alloc_old _ _ hlt), fun j _ => rfl⟩, heap_alloc_new _ _, r.fD, fun hf => Nat.lt_irrefl _ (r.house.lt w r.hs _ hf), Nat.ne_of_lt hlt, r.hF, r.hD, r.bel.size⟩
theorem law (two : Bool) (LV : ∀ W : World, Calls Tryz.prog 4 #[] W fun e w' => e = .returned (.bool true) ∧ Below W.heap.size W w')
    (P : World → World → Addr → Nat → Prop)
    (BG : ∀ W, Calls Tryz.prog 5 #[.bool two] W fun e w' => ∃ h D t, e = .returned (.tuple #[.pointer (some h), .pointer (some ⟨D, 0, none⟩), t]) ∧ P W w' h D)
    (MK : ∀ W w h D, P W w h D → Calls Tryz.prog 6 #[.pointer (some h), .string fpath] w fun e w' => e = .returned (.int .i64 0) ∧ ∃ Fr Hs id x y, Ready two W w' h D Fr Hs id x y)
    (A : Option Addr) (c : Nat) (l : List Int) (w : World) (hmax : l.length ≤ 9223372036854775807) (hc : l.length ≤ c) (hr : IRow w A l) :
    Calls Tryz.prog 3 #[.bool two, .slice A l.length c] w fun e w' => e = .returned (.bool true) ∧ Below w.heap.size w w' := by
  have LV := fun W : World => Aside0.mk (LV W)
  have CB := fun W : World => Aside0.mk (BG W)
  have CM := fun (W u : World) (h : Addr) (D : Nat) (p : P W u h D) => Aside0.mk (MK W u h D p)
  have HI := Aside0.mk hr
  have HM := Aside0.mk hmax
  clear hr hmax hc BG MK
  go_enter Tryz.func3, Tryz.ntmps3
  go_wp2_with (first
    | (go_at_call 4; (with_reducible refine (LV _).out.mono ?_); rintro e w1 ⟨rfl, hb1⟩)
    | (go_at_call 5; (with_reducible refine (CB _).out.mono ?_); rintro e w2 ⟨h, D, t, rfl, hP⟩)
    | (go_at_call 6; (with_reducible refine (CM _ _ _ _ hP).out.mono ?_); rintro e w3 ⟨rfl, Fr, Hs, id, x, y, hR⟩))
  have HH := Aside0.mk hR.house
  have S0 := Aside0.mk hR.first
  have HB0 := Aside0.mk (hb1.trans ((hR.bel).mono hb1.size))
  generalize hU : w3.heap.size = U at *
  generalize hW : w3.alloc _ = u0 at *
  clear hR hP hU hW
  go_loopg [9, 10] (l.length + 1) (fun kq v9 v10 wx => ∃ (i : Nat) (us : Nat → Bool), v9 = .int .i64 (cnt us 8 : Nat) ∧ v10 = .int .i64 (i : Int) ∧ i ≤ l.length ∧ l.length + 1 ≤ i + kq ∧ Aside0 (St (.pointer (some h)) Fr Hs w1 D U wx us us))
  case atStart => exact ⟨0, fun _ => false, rfl, rfl, by omega, by omega, S0⟩
  case round =>
    clear S0
    obtain ⟨i, us, rfl, rfl, hi, hfu, HS⟩ := hrel
    by_cases hlt : i < l.length
    · by_cases h100 : i < 100
      · obtain ⟨k1, rfl⟩ : ∃ k1, gk = k1 + 1 := ⟨gk - 1, by omega⟩
        have g1 : decide ((i : Int) < (l.length : Int)) = true := decide_eq_true (by omega)
        have g2 : decide ((i : Int) < 100) = true := decide_eq_true (by omega)
        have p1 : (0 ≤ (i : Int)) = True := eq_true (by omega)
        have q1 : ((i : Int) < (l.length : Int)) = True := eq_true (by omega)
        obtain ⟨b, o, rfl, hx⟩ := row_at HI.out (hb1.trans (HS.out.bel.mono hb1.size)) i _ (List.getElem?_eq_getElem hlt)
        generalize l[i] = X at hx
        have hwi : wrap64 ((i : Int) + 1) = ((i + 1 : Nat) : Int) := by have := HM.out; simp only [wrap64]; omega
        have HF := Aside0.mk (And.intro hlt hfu)
        have HC := Aside0.mk (cnt_le us 8)
        clear hlt hi hfu h100
        by_cases hA : ∃ K : Nat, K < 8 ∧ X = (K : Int) ∧ us K = true
        · obtain ⟨K, hK, rfl, hu⟩ := hA
          have d1 : decide ((K : Int) ≥ 0) = true := decide_eq_true (by omega)
          have d2 : decide (0 ≤ (K : Int)) = true := decide_eq_true (by omega)
          have d3 : decide ((K : Int) < 8) = true := decide_eq_true (by omega)
          have g4 : (0 ≤ (K : Int)) = True := eq_true (by omega)
          have g5 : ((K : Int) < 8) = True := eq_true (by omega)
          have x2 := HS.out.used.cell hK
          rw [hu] at x2
          have HK := Aside0.mk (And.intro hK hu)
          clear hK hu
          go_wp2_with (first
            | (go_at_call 7; (with_reducible refine (s_close HH.out HS.out K HK.out.1 HK.out.2).mono ?_); rintro e w4 ⟨rfl, hs4⟩; have HS4 := Aside0.mk hs4; clear hs4)
            | (go_at_call 7; (with_reducible refine (s_shut HH.out HS4.out K HK.out.1 (by unfold updB; rw [if_pos rfl])).mono ?_); rintro e w5 ⟨rfl, hs5⟩; have HS5 := Aside0.mk hs5; have x5 := hs5.used.cell HK.out.1; have x6 := hs5.used.soft K; clear hs5))
          have hc : wrap64 (((cnt us 8 : Nat) : Int) - 1) = ((cnt (updB us K false) 8 : Nat) : Int) := by
            have h1 := cnt_unset us K HK.out.2 8
            rw [if_pos HK.out.1] at h1
            have := HC.out
            simp only [wrap64]; omega
          go_roundg k1
          case measure => omega
          case rel => exact ⟨i + 1, updB us K false, by first | (rw [hc]; done) | (simp only [hc]; done), by first | rfl | (rw [hwi]; done), by have := HF.out; omega, by have := HF.out; omega, ⟨HS5.out.putU HH.out HK.out.1 false⟩⟩
        · have hB : (decide (X ≥ 0) = false ∧ decide (0 ≤ X) = false) ∨ (decide (X ≥ 0) = true ∧ decide (0 ≤ X) = true ∧ decide (X < 8) = false) ∨ ∃ K : Nat, X = (K : Int) ∧ K < 8 ∧ us K = false := by
            by_cases h0 : X ≥ 0
            · by_cases h8 : X < 8
              · refine .inr (.inr ⟨X.toNat, by omega, by omega, ?_⟩)
                cases hu : us X.toNat with
                | false => rfl
                | true => exact absurd ⟨X.toNat, by omega, by omega, hu⟩ hA
              · exact .inr (.inl ⟨decide_eq_true h0, decide_eq_true h0, decide_eq_false h8⟩)
            · exact .inl ⟨decide_eq_false h0, decide_eq_false h0⟩
          clear hA
          rcases hB with ⟨d1, d2⟩ | ⟨d1, d2, d3⟩ | ⟨K, rfl, hK, hu⟩
          rotate_left 2
          · have d1 : decide ((K : Int) ≥ 0) = true := decide_eq_true (by omega)
            have d2 : decide (0 ≤ (K : Int)) = true := decide_eq_true (by omega)
            have d3 : decide ((K : Int) < 8) = true := decide_eq_true (by omega)
            have g4 : (0 ≤ (K : Int)) = True := eq_true (by omega)
            have g5 : ((K : Int) < 8) = True := eq_true (by omega)
            have x2 := HS.out.used.cell hK
            rw [hu] at x2
            clear hK hu
            go_wp2
            clear hx
            go_loopg [12] 9 (fun kq v12 wx => ∃ j : Nat, v12 = .int .i64 (j : Int) ∧ j ≤ 8 ∧ 9 ≤ j + kq ∧ Aside0 (∀ m, m < j → us m = true) ∧ Aside0 (wx = wr))
            case atStart => exact ⟨0, rfl, by omega, by omega, ⟨fun m hm => absurd hm (by omega)⟩, ⟨rfl⟩⟩
            case round =>
              obtain ⟨j, rfl, hj, hfj, HU, HE⟩ := hrel
              obtain rfl := HE.out
              clear HE
              by_cases hj8 : j < 8
              · have e1 : decide ((j : Int) < 8) = true := decide_eq_true (by omega)
                have g6 : (0 ≤ (j : Int)) = True := eq_true (by omega)
                have g7 : ((j : Int) < 8) = True := eq_true (by omega)
                have x3 := HS.out.used.cell hj8
                obtain ⟨k2, rfl⟩ : ∃ k2, gk = k2 + 1 := ⟨gk - 1, by omega⟩
                have hwj : wrap64 ((j : Int) + 1) = ((j + 1 : Nat) : Int) := by simp only [wrap64]; omega
                cases hu : us j with
                | true =>
                  rw [hu] at x3
                  have HJ := Aside0.mk (And.intro hj8 (And.intro hfj hu))
                  clear hj8 hfj hu hj
                  go_wp2
                  go_roundg k2
                  case measure => omega
                  case rel => exact ⟨j + 1, by first | rfl | (rw [hwj]; done), by have := HJ.out; omega, by have := HJ.out; omega, ⟨fun m hm => by
                    by_cases e : m = j
                    · subst e; exact HJ.out.2.2
                    · exact HU.out m (by omega)⟩, ⟨rfl⟩⟩
                | false =>
                  rw [hu] at x3
                  have e8 : ((j : Int) == 8) = false := beq_eq_false_iff_ne.2 (by omega)
                  have hc : wrap64 (((cnt us 8 : Nat) : Int) + 1) = ((cnt (updB us j true) 8 : Nat) : Int) := by
                    have h1 := cnt_set us j hu 8
                    rw [if_pos hj8] at h1
                    have := HC.out
                    simp only [wrap64]; omega
                  have HJ := Aside0.mk (And.intro hj8 (And.intro hfj hu))
                  clear hj8 hfj hu hj
                  go_wp2_with (first
                    | (go_at_call 8; (with_reducible refine (s_open HH.out HS.out j HJ.out.1 HJ.out.2.2 HU.out).mono ?_); rintro e w4 ⟨rfl, hs4⟩; have HS4 := Aside0.mk hs4; have x5 := hs4.used.cell HJ.out.1; have x6 := hs4.used.soft j; clear hs4)
                    | (go_at_call 9; (with_reducible refine (s_count HH.out (HS4.out.putU HH.out HJ.out.1 true)).mono ?_); rintro e w5 ⟨rfl, hs5⟩; have HS5 := Aside0.mk hs5; clear hs5))
                  go_roundg k1
                  case measure => omega
                  case rel => exact ⟨i + 1, updB us j true, by first | (rw [hc]; done) | (simp only [hc]; done) | rfl, by first | rfl | (rw [hwi]; done), by have := HF.out; omega, by have := HF.out; omega, HS5⟩
              · obtain rfl : j = 8 := by omega
                go_wp2_with (go_at_call 8; (with_reducible refine (s_full HH.out HS.out HU.out).mono ?_); rintro e w4 ⟨rfl, hs4⟩; have HS4 := Aside0.mk hs4; clear hs4)
                go_roundg k1
                case measure => omega
                case rel => exact ⟨i + 1, us, rfl, by first | rfl | (rw [hwi]; done), by have := HF.out; omega, by have := HF.out; omega, HS4⟩
          all_goals
            go_wp2
            clear hx
            go_loopg [12] 9 (fun kq v12 wx => ∃ j : Nat, v12 = .int .i64 (j : Int) ∧ j ≤ 8 ∧ 9 ≤ j + kq ∧ Aside0 (∀ m, m < j → us m = true) ∧ Aside0 (wx = wr))
            case atStart => exact ⟨0, rfl, by omega, by omega, ⟨fun m hm => absurd hm (by omega)⟩, ⟨rfl⟩⟩
            case round =>
              obtain ⟨j, rfl, hj, hfj, HU, HE⟩ := hrel
              obtain rfl := HE.out
              clear HE
              by_cases hj8 : j < 8
              · have e1 : decide ((j : Int) < 8) = true := decide_eq_true (by omega)
                have g6 : (0 ≤ (j : Int)) = True := eq_true (by omega)
                have g7 : ((j : Int) < 8) = True := eq_true (by omega)
                have x3 := HS.out.used.cell hj8
                obtain ⟨k2, rfl⟩ : ∃ k2, gk = k2 + 1 := ⟨gk - 1, by omega⟩
                have hwj : wrap64 ((j : Int) + 1) = ((j + 1 : Nat) : Int) := by simp only [wrap64]; omega
                cases hu : us j with
                | true =>
                  rw [hu] at x3
                  have HJ := Aside0.mk (And.intro hj8 (And.intro hfj hu))
                  clear hj8 hfj hu hj
                  go_wp2
                  go_roundg k2
                  case measure => omega
                  case rel => exact ⟨j + 1, by first | rfl | (rw [hwj]; done), by have := HJ.out; omega, by have := HJ.out; omega, ⟨fun m hm => by
                    by_cases e : m = j
                    · subst e; exact HJ.out.2.2
                    · exact HU.out m (by omega)⟩, ⟨rfl⟩⟩
                | false =>
                  rw [hu] at x3
                  have e8 : ((j : Int) == 8) = false := beq_eq_false_iff_ne.2 (by omega)
                  have hc : wrap64 (((cnt us 8 : Nat) : Int) + 1) = ((cnt (updB us j true) 8 : Nat) : Int) := by
                    have h1 := cnt_set us j hu 8
                    rw [if_pos hj8] at h1
                    have := HC.out
                    simp only [wrap64]; omega
                  have HJ := Aside0.mk (And.intro hj8 (And.intro hfj hu))
                  clear hj8 hfj hu hj
                  go_wp2_with (first
                    | (go_at_call 8; (with_reducible refine (s_open HH.out HS.out j HJ.out.1 HJ.out.2.2 HU.out).mono ?_); rintro e w4 ⟨rfl, hs4⟩; have HS4 := Aside0.mk hs4; have x5 := hs4.used.cell HJ.out.1; have x6 := hs4.used.soft j; clear hs4)
                    | (go_at_call 9; (with_reducible refine (s_count HH.out (HS4.out.putU HH.out HJ.out.1 true)).mono ?_); rintro e w5 ⟨rfl, hs5⟩; have HS5 := Aside0.mk hs5; clear hs5))
                  go_roundg k1
                  case measure => omega
                  case rel => exact ⟨i + 1, updB us j true, by first | (rw [hc]; done) | (simp only [hc]; done) | rfl, by first | rfl | (rw [hwi]; done), by have := HF.out; omega, by have := HF.out; omega, HS5⟩
              · obtain rfl : j = 8 := by omega
                go_wp2_with (go_at_call 8; (with_reducible refine (s_full HH.out HS.out HU.out).mono ?_); rintro e w4 ⟨rfl, hs4⟩; have HS4 := Aside0.mk hs4; clear hs4)
                go_roundg k1
                case measure => omega
                case rel => exact ⟨i + 1, us, rfl, by first | rfl | (rw [hwi]; done), by have := HF.out; omega, by have := HF.out; omega, HS4⟩
      · have g1 : decide ((i : Int) < (l.length : Int)) = true := decide_eq_true (by omega)
        have g2 : decide ((i : Int) < 100) = false := decide_eq_false (by omega)
        go_wp2_with (go_at_call 9; (with_reducible refine (s_count HH.out HS.out).mono ?_); rintro e w4 ⟨rfl, hs4⟩)
        go_ret
        exact ⟨by first | rfl | (simp; done), hb1.trans (hs4.bel.mono hb1.size)⟩
    · have g1 : decide ((i : Int) < (l.length : Int)) = false := decide_eq_false (by omega)
      go_wp2_with (go_at_call 9; (with_reducible refine (s_count HH.out HS.out).mono ?_); rintro e w4 ⟨rfl, hs4⟩)
      go_ret
      exact ⟨by first | rfl | (simp; done), hb1.trans (hs4.bel.mono hb1.size)⟩
end Go.Proofs.YtdomphkodeamgaaGreatDoor.DeskP
