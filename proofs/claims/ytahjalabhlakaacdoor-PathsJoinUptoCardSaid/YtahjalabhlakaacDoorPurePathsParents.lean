/- The plain laws of joining, parents and what lies under; the law behind PathsParents. Conditions: as the theorems state them. -/
import Derived.Test.YtahjalabhlakaacDoorPurePathsNames
import Derived.Test.YtahjalabhlakaacDoorGPthx4
namespace Go.Proofs.YtahjalabhlakaacDoor.Pure
open Go.RowKit Go.Proofs.YtahjalabhlakaacDoor.GPth Go.Proofs.YtahjalabhlakaacDoorW.PrintWords Go.Proofs.YtahjalabhlakaacDoorW.PrintLast Go.Proofs.YtahjalabhlakaacDoorW.PrintMore Go.Proofs.YtahjalabhlakaacDoor.Plain
def fl (L : List (List UInt8)) : List UInt8 := Lib.joinTail [47] L
def jn (L : List (List UInt8)) : List UInt8 := 47 :: Lib.join L [47]
theorem fl_cons (x : List UInt8) (L : List (List UInt8)) : fl (x :: L) = 47 :: x ++ fl L := by simp [fl, Lib.joinTail]
theorem jn_cons (x : List UInt8) (L : List (List UInt8)) : jn (x :: L) = fl (x :: L) := by
  unfold jn
  rw [Lib.join_cons, fl_cons]; rfl
theorem fl_snoc (L : List (List UInt8)) (x : List UInt8) : fl (L ++ [x]) = fl L ++ (47 :: x) := by simp [fl, Lib.joinTail]
theorem fl_len : ∀ L : List (List UInt8), L.all okn = true → (fl L).length ≤ 12 * L.length
  | [], _ => by simp [fl, Lib.joinTail]
  | x :: L, h => by
    simp only [List.all_cons, Bool.and_eq_true] at h
    have := fl_len L h.2
    have := okn_len h.1
    rw [fl_cons]
    simp
    omega
theorem jn_len (L : List (List UInt8)) (h : L.all okn = true) : (jn L).length ≤ 12 * L.length + 1 := by
  cases L with
  | nil => simp [jn, Lib.join_nil]
  | cons x L =>
    have := fl_len (x :: L) h
    rw [jn_cons]
    omega
def spJ (L : List (List UInt8)) : ByteArray × Int := if L.all okn = true then (if 255 < (jn L).length then (B [], 4) else (B (jn L), 0)) else (B [], 4)
theorem map_B (L : List (List UInt8)) : (L.map B).map (·.data.toList) = L := by
  rw [List.map_map]
  conv => rhs; rw [← List.map_id L]
  exact List.map_congr_left (fun y _ => rfl)
theorem join_eq (L : List (List UInt8)) (h1 : L.length ≤ 140737488355328) (h2 : (jn L).length ≤ 140737488355328) (h3 : ∀ x ∈ L, x.length ≤ 140737488355328) : paths_Join.f (L.map B) = some (spJ L) := by
  unfold paths_Join.f strings_Join.f
  have hj : Lib.join ((L.map B).map (·.data.toList)) (⟨#[47]⟩ : ByteArray).data.toList = Lib.join L [47] := by rw [map_B]
  rw [hj]
  have hl : (jn L).length = (Lib.join L [47]).length + 1 := by simp [jn]
  rw [if_pos (by simpa using h1), if_pos (by omega)]
  simp only [Option.bind_some]
  have hs : (⟨(Lib.join L [47]).toArray⟩ : ByteArray).size = (Lib.join L [47]).length := B_size _
  rw [if_pos (by omega)]
  have e2 : GOdd.f (L.map B) = some (!(L.all okn)) := by
    unfold GOdd.f
    rw [odd_all, all_B]
    intro y hy
    obtain ⟨z, hz, rfl⟩ := List.mem_map.1 hy
    have := h3 z hz
    rw [B_size]
    omega
  rw [e2]
  simp only [Option.bind_some]
  have hc : (⟨#[47]⟩ : ByteArray) ++ (⟨(Lib.join L [47]).toArray⟩ : ByteArray) = B (jn L) := by
    apply B_inj
    rw [B_data, ByteArray.data_append]
    simp [jn]
  rw [hc]
  have hsz : ((B (jn L)).size : Int) = ((jn L).length : Int) := by rw [B_size]
  rw [hsz]
  unfold spJ
  cases ha : L.all okn with
  | true =>
    simp only [Bool.not_true, Bool.false_eq_true, if_false, if_true]
    by_cases h : 255 < (jn L).length
    · rw [if_pos h, if_pos (by omega)]; rfl
    · rw [if_neg h, if_neg (by omega)]
  | false => simp only [Bool.not_false, if_true, Bool.false_eq_true, if_false]; rfl
theorem rjoin_loop (L : List (List UInt8)) (hL : L.length ≤ 1099511627776) (hz : ∀ x ∈ L, x.length ≤ 140737488351232) : ∀ n i : Nat, L.length = i + n → (L.take i).all okn = true →
    Ev (fun k => wainwrightref06_Join.l0 k (L.map B) (B (fl (L.take i))) (i : Int)) (spJ L)
  | 0, i, h, ha => by
    have ht : L.take i = L := List.take_of_length_le (by omega)
    rw [ht] at ha ⊢
    refine Ev.step (f := fun _ => some (spJ L)) (fun k => ?_) (Ev.now _)
    simp only [wainwrightref06_Join.l0, List.length_map]
    rw [if_neg (by omega)]
    unfold spJ
    rw [if_pos ha]
    cases L with
    | nil => rfl
    | cons x L =>
      rw [if_neg (by simp; omega), jn_cons]
      have hsz : ((B (fl (x :: L))).size : Int) = ((fl (x :: L)).length : Int) := by rw [B_size]
      rw [hsz]
      by_cases h' : 255 < (fl (x :: L)).length
      · rw [if_pos h', if_pos (by omega)]; rfl
      · rw [if_neg h', if_neg (by omega)]
  | n + 1, i, h, ha => by
    have hi : i < L.length := by omega
    have hm : L[i] ∈ L := List.getElem_mem hi
    have ht : L.take (i + 1) = L.take i ++ [L[i]] := by rw [List.take_add_one, List.getElem?_eq_getElem hi]; rfl
    have hr : rdOf ByteArray.empty (L.map B) (i : Int) = B (L[i]) := by rw [rdOf_at _ _ (by simpa using hi)]; simp
    have hfl := fl_len (L.take i) ha
    have hti : (L.take i).length = i := by simp; omega
    have hcat : (⟨#[47]⟩ : ByteArray) ++ B (L[i]) = B (47 :: L[i]) := by apply B_inj; rw [B_data, ByteArray.data_append]; simp [B]
    have hcat2 : B (fl (L.take i)) ++ B (47 :: L[i]) = B (fl (L.take (i + 1))) := by apply B_inj; rw [ht, fl_snoc, B_data, ByteArray.data_append]; simp [B]
    refine Ev.step (f := fun k => (wainwrightref06_Right.f k (B (L[i]))).bind fun t => if t = true then (if 1 + (B (L[i])).size ≤ 9223372036854775807 then (if (B (fl (L.take i))).size + ((⟨#[47]⟩ : ByteArray) ++ B (L[i])).size ≤ 9223372036854775807 then wainwrightref06_Join.l0 k (L.map B) (B (fl (L.take i)) ++ ((⟨#[47]⟩ : ByteArray) ++ B (L[i]))) ((i + 1 : Nat) : Int) else none) else none) else some ((⟨#[]⟩ : ByteArray), 4)) (fun k => ?_) ?_
    · simp only [wainwrightref06_Join.l0, List.length_map]
      rw [if_pos (by omega), if_pos (by omega), hr, wrap_in _ (by omega) (by omega)]
      rfl
    · refine Ev.bind (rright_ev _ (by rw [B_size]; exact hz _ hm)) ?_
      rw [B_data, hcat, hcat2]
      cases hk : okn (L[i]) with
      | true =>
        have hk2 := okn_len hk
        simp only [if_true]
        simp only [if_pos (show 1 + (B (L[i])).size ≤ 9223372036854775807 by rw [B_size]; omega), if_pos (show (B (fl (L.take i))).size + (B (47 :: L[i])).size ≤ 9223372036854775807 by rw [B_size, B_size]; simp; omega)]
        exact rjoin_loop L hL hz n (i + 1) (by omega) (by rw [ht, List.all_append, ha]; simp [hk])
      | false =>
        simp only [Bool.false_eq_true, if_false]
        have : spJ L = (B [], 4) := by
          unfold spJ
          rw [if_neg]
          intro e
          rw [List.all_eq_true.1 e _ hm] at hk
          cases hk
        rw [this]
        exact Ev.now _
theorem rjoin_ev (L : List (List UInt8)) (hL : L.length ≤ 1099511627776) (hz : ∀ x ∈ L, x.length ≤ 140737488351232) : Ev (fun k => wainwrightref06_Join.f k (L.map B)) (spJ L) := rjoin_loop L hL hz L.length 0 (by omega) (by simp)
/-- A path's parent: what is split, joined without its last name. -/
def spP (l : List UInt8) : ByteArray × ByteArray × Int :=
  if (spS l).2 = 0 then (if (spS l).1.length = 0 then (B [], B [], 1) else ((spJ (((spS l).1.take ((spS l).1.length - 1)).map (·.data.toList))).1, (spS l).1.getD ((spS l).1.length - 1) ByteArray.empty, (spJ (((spS l).1.take ((spS l).1.length - 1)).map (·.data.toList))).2)) else (B [], B [], (spS l).2)
theorem take_all {L : List (List UInt8)} (h : L.all okn = true) (n : Nat) : (L.take n).all okn = true :=
  List.all_eq_true.2 (fun x hx => List.all_eq_true.1 h x (List.mem_of_mem_take hx))
theorem all_len {L : List (List UInt8)} (h : L.all okn = true) : ∀ x ∈ L, x.length ≤ 11 := fun x hx => (okn_len (List.all_eq_true.1 h x hx)).2
theorem parent_eq (k : Nat) (x : ByteArray) : paths_Parent.f (k + 1) x = some (spP x.data.toList) := by
  unfold paths_Parent.f
  rw [split_eq]
  simp only [Option.bind_some]
  obtain ⟨L, h1, h2, h3⟩ := spS_all x.data.toList
  unfold spP
  generalize spS x.data.toList = s at *
  obtain ⟨s1, s2⟩ := s
  simp only at h1
  subst h1
  simp only
  by_cases he : s2 = 0
  · rw [if_pos he, if_pos he]
    by_cases h0 : L.length = 0
    · rw [if_pos (by simpa using h0), if_pos (by simpa using h0)]; rfl
    · have hl : ((L.map B).length : Int) = (L.length : Int) := by simp
      rw [if_neg (by rw [hl]; omega), if_neg (show ¬ (L.map B).length = 0 by rw [List.length_map]; exact h0), hl, wrap_in _ (by omega) (by omega), if_pos (by omega), if_pos (by omega), show ((L.length : Int) - 1).toNat = L.length - 1 by omega, List.length_map, ← List.map_take, map_B]
      have ha := take_all h2 (L.length - 1)
      have hj := jn_len _ ha
      rw [join_eq _ (by simp; omega) (by simp at hj; omega) (fun y hy => by have := all_len ha y hy; omega)]
      simp only [Option.bind_some]
      rw [if_pos (by omega)]
      rw [show rdOf ByteArray.empty (L.map B) ((L.length : Int) - 1) = (L.map B).getD (L.length - 1) ByteArray.empty by unfold rdOf; congr 1; omega]
  · rw [if_neg he, if_neg he]; rfl
theorem rparent_ev (x : ByteArray) : Ev (fun k => wainwrightref06_Parent.f k x) (spP x.data.toList) := by
  unfold wainwrightref06_Parent.f
  refine Ev.bind (rsplit_ev x) ?_
  obtain ⟨L, h1, h2, h3⟩ := spS_all x.data.toList
  unfold spP
  generalize spS x.data.toList = s at *
  obtain ⟨s1, s2⟩ := s
  simp only at h1
  subst h1
  simp only
  by_cases he : s2 = 0
  · simp only [if_pos he]
    by_cases h0 : L.length = 0
    · have hl : ((L.map B).length : Int) = 0 := by rw [List.length_map]; omega
      rw [if_pos (show (L.map B).length = 0 by simpa using h0)]
      simp only [if_pos hl]
      exact Ev.now _
    · have hl : ((L.map B).length : Int) = (L.length : Int) := by simp
      rw [if_neg (show ¬ (L.map B).length = 0 by simpa using h0)]
      have ha := take_all h2 (L.length - 1)
      have e1 : ((L.map B).take ((L.map B).length - 1)).map (·.data.toList) = L.take (L.length - 1) := by rw [← List.map_take, map_B]; simp
      have e2 : (L.map B).take ((L.length : Int) - 1).toNat = (L.take (L.length - 1)).map B := by rw [← List.map_take, show ((L.length : Int) - 1).toNat = L.length - 1 by omega]
      have e3 : rdOf ByteArray.empty (L.map B) ((L.length : Int) - 1) = (L.map B).getD ((L.map B).length - 1) ByteArray.empty := by
        unfold rdOf
        congr 1
        rw [List.length_map]
        omega
      rw [e1]
      simp only [hl, wrap_in ((L.length : Int) - 1) (by omega) (by omega), e2, e3, if_neg (show ¬ ((L.length : Int) = 0) by omega), if_pos (show 0 ≤ (L.length : Int) - 1 by omega), if_pos (show (L.length : Int) - 1 ≤ (L.length : Int) by omega), if_pos (show (L.length : Int) - 1 < (L.length : Int) by omega)]
      refine Ev.bind (rjoin_ev _ (by simp; omega) (fun y hy => by have := all_len ha y hy; omega)) (Ev.now _)
  · simp only [if_neg he]
    exact Ev.now _
/-- Whether a path lies under another one. -/
def spU (a b : List UInt8) : Bool := decide ((spS a).2 = 0) && (decide ((spS b).2 = 0) && (decide ((spS a).1.length ≤ (spS b).1.length) && decide ((spS a).1 = (spS b).1.take (spS a).1.length)))
theorem equal_loop (x y : List ByteArray) (hx : x.length ≤ 300) (hy : y.length = x.length) : ∀ n i : Nat, x.length = i + n →
    Ev (fun k => slices_Equal_string_string.l0 k x y (x.length : Int) (i : Int)) (decide (x.drop i = y.drop i))
  | 0, i, h => by
    rw [List.drop_eq_nil_of_le (show x.length ≤ i by omega), List.drop_eq_nil_of_le (show y.length ≤ i by omega)]
    exact Ev.step (f := fun _ => some true) (fun k => by simp only [slices_Equal_string_string.l0]; rw [if_neg (by omega)]) (Ev.now _)
  | n + 1, i, h => by
    have hi : i < x.length := by omega
    have hi2 : i < y.length := by omega
    rw [List.drop_eq_getElem_cons hi, List.drop_eq_getElem_cons hi2]
    refine Ev.step (f := fun k => if x[i] = y[i] then slices_Equal_string_string.l0 k x y (x.length : Int) ((i + 1 : Nat) : Int) else some false) (fun k => ?_) ?_
    · simp only [slices_Equal_string_string.l0]
      rw [if_pos (by omega), if_pos (by omega), if_pos (by omega), if_pos (by omega), rdOf_at _ _ hi, rdOf_at _ _ hi2, wrap_in _ (by omega) (by omega)]
      simp only [list_eq]
      rfl
    · by_cases he : x[i] = y[i]
      · have e : decide (x[i] :: x.drop (i + 1) = y[i] :: y.drop (i + 1)) = decide (x.drop (i + 1) = y.drop (i + 1)) := by rw [he]; exact decide_eq_decide.2 ⟨fun h => (List.cons.inj h).2, fun h => by rw [h]⟩
        rw [e]
        simp only [he, if_true]
        exact equal_loop x y hx hy n (i + 1) (by omega)
      · have e : decide (x[i] :: x.drop (i + 1) = y[i] :: y.drop (i + 1)) = false := decide_eq_false (fun h => he (List.cons.inj h).1)
        rw [e]
        simp only [if_neg he]
        exact Ev.now _
theorem under_loop (x y : List ByteArray) (hx : x.length ≤ 300) (hy : x.length ≤ y.length) : ∀ n i : Nat, x.length = i + n →
    Ev (fun k => wainwrightref06_Under.l0 k x y (i : Int)) (decide (x.drop i = (y.take x.length).drop i))
  | 0, i, h => by
    rw [List.drop_eq_nil_of_le (show x.length ≤ i by omega), List.drop_eq_nil_of_le (show (y.take x.length).length ≤ i by simp; omega)]
    exact Ev.step (f := fun _ => some true) (fun k => by simp only [wainwrightref06_Under.l0]; rw [if_neg (by omega)]) (Ev.now _)
  | n + 1, i, h => by
    have hi : i < x.length := by omega
    have hi2 : i < y.length := by omega
    have hi3 : i < (y.take x.length).length := by simp; omega
    rw [List.drop_eq_getElem_cons hi, List.drop_eq_getElem_cons hi3, List.getElem_take]
    refine Ev.step (f := fun k => if x[i] = y[i] then wainwrightref06_Under.l0 k x y ((i + 1 : Nat) : Int) else some false) (fun k => ?_) ?_
    · simp only [wainwrightref06_Under.l0]
      rw [if_pos (by omega), if_pos (by omega), if_pos (by omega), rdOf_at _ _ hi, rdOf_at _ _ hi2, wrap_in _ (by omega) (by omega)]
      simp only [list_eq]
      rfl
    · by_cases he : x[i] = y[i]
      · have e : decide (x[i] :: x.drop (i + 1) = y[i] :: (y.take x.length).drop (i + 1)) = decide (x.drop (i + 1) = (y.take x.length).drop (i + 1)) := by rw [he]; exact decide_eq_decide.2 ⟨fun h => (List.cons.inj h).2, fun h => by rw [h]⟩
        rw [e]
        simp only [he, if_true]
        exact under_loop x y hx hy n (i + 1) (by omega)
      · have e : decide (x[i] :: x.drop (i + 1) = y[i] :: (y.take x.length).drop (i + 1)) = false := decide_eq_false (fun h => he (List.cons.inj h).1)
        rw [e]
        simp only [if_neg he]
        exact Ev.now _
theorem under_ev (x y : ByteArray) : Ev (fun k => paths_Under.f k x y) (spU x.data.toList y.data.toList) := by
  unfold paths_Under.f
  refine Ev.bind (split_ev x) (Ev.bind (split_ev y) ?_)
  have h1 := spS_len x.data.toList
  have h2 := spS_len y.data.toList
  unfold spU
  generalize spS x.data.toList = s at *
  generalize spS y.data.toList = t at *
  by_cases hs : s.2 = 0
  · simp only [if_pos hs, decide_eq_true hs, Bool.true_and]
    by_cases ht : t.2 = 0
    · simp only [if_pos ht, decide_eq_true ht, Bool.true_and]
      by_cases hl : s.1.length ≤ t.1.length
      · simp only [if_pos (show (s.1.length : Int) ≤ (t.1.length : Int) by omega), if_pos (show 0 ≤ (s.1.length : Int) by omega), decide_eq_true hl, Bool.true_and, Int.toNat_natCast]
        refine Ev.bind (g := fun k => slices_Equal_string_string.f k s.1 (t.1.take s.1.length)) (a := decide (s.1 = t.1.take s.1.length)) ?_ (Ev.now _)
        unfold slices_Equal_string_string.f
        have hy : (t.1.take s.1.length).length = s.1.length := by simp; omega
        simp only [if_pos (show (s.1.length : Int) = ((t.1.take s.1.length).length : Int) by omega)]
        have := equal_loop s.1 (t.1.take s.1.length) (by omega) hy s.1.length 0 (by omega)
        rw [List.drop_zero, List.drop_zero] at this
        exact this
      · simp only [if_neg (show ¬ (s.1.length : Int) ≤ (t.1.length : Int) by omega), decide_eq_false hl, Bool.false_and]
        exact Ev.now _
    · simp only [if_neg ht, decide_eq_false ht, Bool.false_and]
      exact Ev.now _
  · simp only [if_neg hs, decide_eq_false hs, Bool.false_and]
    exact Ev.now _
theorem runder_ev (x y : ByteArray) : Ev (fun k => wainwrightref06_Under.f k x y) (spU x.data.toList y.data.toList) := by
  unfold wainwrightref06_Under.f
  refine Ev.bind (rsplit_ev x) (Ev.bind (rsplit_ev y) ?_)
  have h1 := spS_len x.data.toList
  have h2 := spS_len y.data.toList
  unfold spU
  generalize spS x.data.toList = s at *
  generalize spS y.data.toList = t at *
  have bad : Ev (fun k => wainwrightref06_Under.j0 k s.1 t.1 true) false := Ev.step (f := fun _ => some false) (fun k => by simp only [wainwrightref06_Under.j0]; rw [if_pos trivial]) (Ev.now _)
  by_cases hs : s.2 = 0
  · simp only [if_pos hs, decide_eq_true hs, Bool.true_and]
    by_cases ht : t.2 = 0
    · simp only [if_pos ht, decide_eq_true ht, Bool.true_and]
      by_cases hl : s.1.length ≤ t.1.length
      · simp only [decide_eq_true hl, Bool.true_and, decide_eq_false (show ¬ (s.1.length : Int) > (t.1.length : Int) by omega)]
        refine Ev.step (f := fun k => wainwrightref06_Under.l0 k s.1 t.1 0) (fun k => by simp only [wainwrightref06_Under.j0]; rw [if_neg (by decide)]) ?_
        have := under_loop s.1 t.1 (by omega) hl s.1.length 0 (by omega)
        rw [List.drop_zero, List.drop_zero] at this
        exact this
      · simp only [decide_eq_false hl, Bool.false_and, decide_eq_true (show (s.1.length : Int) > (t.1.length : Int) by omega)]
        exact bad
    · simp only [if_neg ht, decide_eq_false ht, Bool.false_and]
      exact bad
  · simp only [if_neg hs, decide_eq_false hs, Bool.false_and]
    exact bad
theorem parent_ev (x : ByteArray) : Ev (fun k => paths_Parent.f k x) (spP x.data.toList) := ⟨1, fun k hk => by obtain ⟨j, rfl⟩ : ∃ j, k = j + 1 := ⟨k - 1, by omega⟩; exact parent_eq j x⟩
theorem PathsParents : wainwrightlaw06_PathsParents.Pure := by
  intro a0 a1 h0 h1
  refine Ev.rounds (Ev.bind lives_ev ?_)
  simp only [if_true]
  refine Ev.bind (parent_ev a0) ?_
  refine Ev.bind (rparent_ev a0) ?_
  simp only [if_true]
  refine Ev.bind (under_ev a0 a1) ?_
  refine Ev.bind (runder_ev a0 a1) ?_
  rw [beq_self_eq_true]
  exact Ev.now _
theorem PathsParents_walk (a0 a1 : ByteArray) (W : World) (w0 : a0.size ≤ 140737488351232) (w1 : a1.size ≤ 140737488351232) :
    Calls Tryd.prog 4 #[.string a0, .string a1] W fun e w' => e = .returned (.bool true) ∧ Below W.heap.size W w' := by
  obtain ⟨k, hk⟩ := PathsParents a0 a1 w0 w1
  exact wainwrightlaw06_PathsParents.calls k a0 a1 true W hk
end Go.Proofs.YtahjalabhlakaacDoor.Pure
