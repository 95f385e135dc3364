/- The plain laws of paths: splitting, joining, parents, what lies under. Conditions: as the theorems state them. -/
import Derived.Test.YtahjalabhlakaacDoorPlain
import Derived.Lib.SplitLaws
import Derived.Lib.Join
import Derived.Test.YtahjalabhlakaacDoorGPthx2
import Derived.Test.YtahjalabhlakaacDoorGPthx3
import Derived.Test.YtahjalabhlakaacDoorGPthx3
import Derived.Test.YtahjalabhlakaacDoorGPthx4
import Derived.Test.YtahjalabhlakaacDoorGPthx4
import Derived.Test.YtahjalabhlakaacDoorGPthx2
namespace Go.Proofs.YtahjalabhlakaacDoor.Pure
open Go.RowKit Go.Proofs.YtahjalabhlakaacDoor.GPth Go.Proofs.YtahjalabhlakaacDoorW.PrintWords Go.Proofs.YtahjalabhlakaacDoorW.PrintLast Go.Proofs.YtahjalabhlakaacDoorW.PrintMore Go.Proofs.YtahjalabhlakaacDoor.Plain

def B (l : List UInt8) : ByteArray := ⟨l.toArray⟩
theorem B_data (l : List UInt8) : (B l).data.toList = l := rfl
theorem B_of (x : ByteArray) : B x.data.toList = x := by cases x; simp [B]
theorem B_list (l : List UInt8) : (B l).toList = l := by rw [Lib.toList_data, B_data]
theorem B_size (l : List UInt8) : (B l).size = l.length := by rw [Lib.size_eq, B_data]
theorem B_inj {x y : ByteArray} (h : x.data.toList = y.data.toList) : x = y := by rw [← B_of x, h, B_of]
theorem list_eq (x y : ByteArray) : (x.toList = y.toList) ↔ x = y := by
  rw [Lib.toList_data, Lib.toList_data]
  exact ⟨B_inj, fun h => by rw [h]⟩
theorem ext_eq (x : ByteArray) (a b : Nat) : x.extract a b = B ((x.data.toList.take b).drop a) := by
  apply B_inj
  rw [B_data, Lib.extract_eq, List.drop_take]
def splc : List UInt8 → List UInt8 → List (List UInt8)
  | cur, [] => [cur]
  | cur, b :: r => if b = 47 then cur :: splc [] r else splc (cur ++ [b]) r
theorem index_skip : ∀ (cur r : List UInt8), (47 : UInt8) ∉ cur → Lib.indexByte (cur ++ 47 :: r) 47 = cur.length
  | [], r, _ => by simp [Lib.indexByte]
  | a :: cur, r, h => by
    have h1 : a ≠ 47 := fun e => h (by simp [e])
    have ih := index_skip cur r (fun e => h (by simp [e]))
    rw [List.cons_append, Lib.indexByte, ih, if_neg (by simpa using h1), if_neg (by simp <;> omega)]
    simp
theorem splitK_splc : ∀ (l cur : List UInt8), (47 : UInt8) ∉ cur → Lib.splitK [47] 0 (l.count 47) (cur ++ l) = splc cur l
  | [], cur, _ => by simp [Lib.splitK, splc]
  | b :: r, cur, h => by
    by_cases hb : b = 47
    · subst hb
      rw [List.count_cons_self, Lib.splitK, Lib.index_one, index_skip cur r h, if_neg (by simp <;> omega), splc, if_pos rfl]
      have e1 : ((cur.length : Int).toNat + 0) = cur.length := by omega
      have e2 : ((cur.length : Int).toNat + [(47 : UInt8)].length) = cur.length + 1 := by simp
      rw [e1, e2, List.take_left, show (cur ++ 47 :: r).drop (cur.length + 1) = r by simp [List.drop_append]]
      congr 1
      exact splitK_splc r [] (by simp)
    · rw [List.count_cons_of_ne (by simpa using hb), splc, if_neg hb, show cur ++ b :: r = (cur ++ [b]) ++ r by simp]
      exact splitK_splc r (cur ++ [b]) (by simp; exact ⟨h, fun e => hb e.symm⟩)
theorem splitB_splc (x : ByteArray) : Lib.splitB ⟨#[47]⟩ 0 (Lib.countB x ⟨#[47]⟩) x = (splc [] x.data.toList).map B := by
  have h := Lib.splitB_data ⟨#[47]⟩ 0 (Lib.countB x ⟨#[47]⟩) x
  have h2 := splitK_splc x.data.toList [] (by simp)
  have h3 : Lib.countB x ⟨#[47]⟩ = x.data.toList.count 47 := Lib.count_one 47 _
  rw [List.nil_append, ← h3] at h2
  have h4 : (Lib.splitB ⟨#[47]⟩ 0 (Lib.countB x ⟨#[47]⟩) x).map (·.data.toList) = splc [] x.data.toList := h.trans h2
  rw [← h4, List.map_map]
  conv => lhs; rw [← List.map_id (Lib.splitB ⟨#[47]⟩ 0 (Lib.countB x ⟨#[47]⟩) x)]
  apply List.map_congr_left
  intro y _
  exact (B_of y).symm
def spS : List UInt8 → List ByteArray × Int
  | [] => ([], 4)
  | b :: r => if b = 47 then (if 255 < r.length + 1 then ([], 4) else if r = [] then ([], 0) else if (splc [] r).all okn then ((splc [] r).map B, 0) else ([], 4)) else ([], 4)
theorem okn_len {l : List UInt8} (h : okn l = true) : 1 ≤ l.length ∧ l.length ≤ 11 := by
  unfold okn at h
  simp only [Bool.and_eq_true, decide_eq_true_eq, Bool.not_eq_true', beq_eq_false_iff_ne] at h
  have : l ≠ [] := h.1.1.1.1
  have := List.length_pos_iff.2 this
  exact ⟨by omega, h.1.2⟩
theorem okn_47 {l : List UInt8} (h : okn l = true) : (47 : UInt8) ∉ l := by
  unfold okn at h
  simp only [Bool.and_eq_true] at h
  intro hm
  have := List.all_eq_true.1 h.2 47 hm
  revert this
  decide
theorem splc_len : ∀ (r cur : List UInt8), (splc cur r).length ≤ r.length + 1
  | [], cur => by simp [splc]
  | b :: r, cur => by
    unfold splc
    split
    · have := splc_len r []
      simp only [List.length_cons]
      omega
    · have := splc_len r (cur ++ [b])
      simp only [List.length_cons]
      omega
theorem splc_ne (r cur : List UInt8) : splc cur r ≠ [] := by
  induction r generalizing cur with
  | nil => simp [splc]
  | cons b r ih =>
    unfold splc
    split
    · simp
    · exact ih _
theorem splc_size : ∀ (r cur : List UInt8), ∀ x ∈ splc cur r, x.length ≤ cur.length + r.length
  | [], cur, x, h => by simp [splc] at h; subst h; simp
  | b :: r, cur, x, h => by
    unfold splc at h
    split at h
    · rcases List.mem_cons.1 h with h | h
      · subst h; omega
      · have := splc_size r [] x h
        simp at this ⊢
        omega
    · have := splc_size r (cur ++ [b]) x h
      simp at this ⊢
      omega
theorem odd_all : ∀ (l : List ByteArray), (∀ x ∈ l, x.size ≤ 9223372036854775807) → GOdd.l0 l = some (!(l.all (fun x => okn x.data.toList)))
  | [], _ => rfl
  | x :: l, h => by
    have h1 := h x (by simp)
    simp only [GOdd.l0, paths_odd.f, paths_Right.f]
    rw [if_pos h1]
    simp only [Option.bind_some]
    cases hx : okn x.data.toList with
    | true => simp only [Bool.not_true, Bool.false_eq_true, if_false, List.all_cons, hx, Bool.true_and]; exact odd_all l (fun y hy => h y (by simp [hy]))
    | false => simp [hx]
theorem all_B (L : List (List UInt8)) : (L.map B).all (fun x => okn x.data.toList) = L.all okn := by
  rw [List.all_map]; rfl
theorem cut_eq (l : List UInt8) : strings_CutPrefix.f (B l) ⟨#[47]⟩ = some (match l with | [] => (B [], false) | b :: r => if b = 47 then (B r, true) else (B (b :: r), false)) := by
  cases l with
  | nil => rfl
  | cons b r =>
    have hs : ((B (b :: r)).size : Int) = (r.length : Int) + 1 := by rw [B_size]; simp
    have hc : ((⟨#[47]⟩ : ByteArray).size : Int) = 1 := rfl
    have he : ((B (b :: r)).extract 0 1).toList = [b] := by rw [ext_eq, B_list, B_data]; rfl
    have ht : (⟨#[47]⟩ : ByteArray).toList = [47] := B_list [47]
    have hd : (B (b :: r)).extract 1 (B (b :: r)).size = B r := by rw [ext_eq, B_size, B_data, List.take_length]; rfl
    simp only [strings_CutPrefix.f, stringslite_CutPrefix.f, stringslite_HasPrefix.f, hs, hc]
    rw [if_pos (by omega), if_pos (by omega), if_pos (by omega)]
    simp only [Option.bind_some, show ((1 : Int).toNat) = 1 from rfl]
    rw [he, ht]
    by_cases hb : b = 47
    · subst hb
      rw [if_pos (by rfl), if_pos (by omega), if_pos (by omega), hd, if_pos rfl]
      rfl
    · have hbe : ([b] == [(47 : UInt8)]) = false := beq_eq_false_iff_ne.2 (by simpa using hb)
      rw [hbe, if_neg (by decide), if_neg hb]
      rfl
theorem split_eq (k : Nat) (x : ByteArray) : paths_Split.f (k + 1) x = some (spS x.data.toList) := by
  conv => lhs; rw [← B_of x]
  generalize x.data.toList = l
  unfold paths_Split.f
  rw [cut_eq]
  cases l with
  | nil => rfl
  | cons b r =>
    simp only [Option.bind_some]
    by_cases hb : b = 47
    · rw [if_pos hb]
      simp only [if_true, paths_Split.j0, spS]
      rw [if_pos hb]
      have hs : ((B (b :: r)).size : Int) = (r.length : Int) + 1 := by rw [B_size]; simp
      rw [hs]
      by_cases h1 : 255 < r.length + 1
      · rw [decide_eq_true (by omega), if_pos rfl, if_pos h1]
      · rw [decide_eq_false (by omega), if_neg (by decide), if_neg h1, B_list]
        by_cases h2 : r = []
        · rw [if_pos h2, if_pos h2]
        · rw [if_neg h2, if_neg h2]
          have hr : (B r).size = r.length := B_size r
          have e1 : strings_Split.f (B r) ⟨#[47]⟩ = some ((splc [] r).map B) := by
            unfold strings_Split.f strings_genSplit.f
            rw [if_pos (by rfl), if_pos rfl, if_pos rfl, if_pos (by omega), splitB_splc]
            rfl
          rw [e1]
          simp only [Option.bind_some]
          have e2 : GOdd.f ((splc [] r).map B) = some (!((splc [] r).all okn)) := by
            unfold GOdd.f
            rw [odd_all, all_B]
            intro y hy
            obtain ⟨z, hz, rfl⟩ := List.mem_map.1 hy
            have := splc_size r [] z hz
            rw [B_size]
            simp at this
            omega
          rw [e2]
          simp only [Option.bind_some]
          cases (splc [] r).all okn <;> simp
    · rw [if_neg hb]
      simp only [Bool.false_eq_true, if_false, paths_Split.j0, if_true, spS]
      rw [if_neg hb]
theorem sign_eq (b : UInt8) : wainwrightref06_sign.f (b.toNat : Int) = some (GBad.signs.contains b) := by
  have h : (List.range 256).all (fun n => decide (wainwrightref06_sign.f (n : Int) = some (GBad.signs.contains (UInt8.ofNat n)))) = true := by kernel_rfl
  have := of_decide_eq_true (List.all_eq_true.1 h b.toNat (List.mem_range.2 b.toNat_lt))
  rwa [UInt8.ofNat_toNat] at this
theorem bt_B (x : ByteArray) (i : Nat) (h : i < x.data.toList.length) : bt x (i : Int) = ((x.data.toList[i]).toNat : Int) := by
  have h' : i < x.size := by rw [Lib.size_eq]; exact h
  unfold bt
  rw [dif_pos (by simpa using h')]
  rfl
def okE (l : List UInt8) : Bool := decide (1 ≤ l.length) && decide (l.length ≤ 11) && !(l == [46]) && !(l == [46, 46])
theorem okn_okE (l : List UInt8) : okn l = (l.all (fun b => GBad.signs.contains b) && okE l) := by
  unfold okn okE
  have : (decide (1 ≤ l.length)) = !(l == []) := by cases l <;> simp
  rw [this]
  cases l.all (fun b => GBad.signs.contains b) <;> cases (l == []) <;> cases (l == [46]) <;> cases (l == [46, 46]) <;> cases decide (l.length ≤ 11) <;> rfl
theorem rright_loop (x : ByteArray) (hs : x.size ≤ 140737488351232) : ∀ (n i : Nat), x.size = i + n → Ev (fun k => wainwrightref06_Right.l0 k x (i : Int)) ((x.data.toList.drop i).all (fun b => GBad.signs.contains b) && okE x.data.toList)
  | 0, i, h => by
    refine Ev.step (f := fun _ => some ((x.data.toList.drop i).all (fun b => GBad.signs.contains b) && okE x.data.toList)) (fun k => ?_) (Ev.now _)
    simp only [wainwrightref06_Right.l0]
    have hl : x.data.toList.length = x.size := (Lib.size_eq x).symm
    rw [if_neg (by omega), List.drop_eq_nil_of_le (by omega), Lib.toList_data]
    unfold okE
    rw [hl]
    by_cases h1 : (x.size : Int) ≥ 1
    · rw [if_pos h1, decide_eq_true (show 1 ≤ x.size by omega)]
      by_cases h2 : (x.size : Int) ≤ 11
      · rw [if_pos h2, decide_eq_true (show x.size ≤ 11 by omega)]
        by_cases h3 : x.data.toList = [46]
        · rw [if_pos h3, h3]; rfl
        · rw [if_neg h3, beq_eq_false_iff_ne.2 h3]
          simp [bne]
      · rw [if_neg h2, decide_eq_false (show ¬ x.size ≤ 11 by omega)]
        simp
    · rw [if_neg h1, decide_eq_false (show ¬ 1 ≤ x.size by omega)]
      simp
  | n + 1, i, h => by
    have hl : x.data.toList.length = x.size := (Lib.size_eq x).symm
    have hi : i < x.data.toList.length := by omega
    have ih := rright_loop x hs n (i + 1) (by omega)
    have hd : x.data.toList.drop i = x.data.toList[i] :: x.data.toList.drop (i + 1) := List.drop_eq_getElem_cons hi
    refine Ev.step (f := fun k => if GBad.signs.contains (x.data.toList[i]) = true then wainwrightref06_Right.l0 k x ((i + 1 : Nat) : Int) else some false) (fun k => ?_) ?_
    · simp only [wainwrightref06_Right.l0]
      rw [if_pos (by omega), if_pos (by omega), bt_B x i hi, sign_eq, wrap_in _ (by omega) (by omega)]
      rfl
    · rw [hd, List.all_cons]
      cases hc : GBad.signs.contains (x.data.toList[i]) with
      | true => simpa using ih
      | false => simpa using Ev.now false
theorem rright_ev (x : ByteArray) (hs : x.size ≤ 140737488351232) : Ev (fun k => wainwrightref06_Right.f k x) (okn x.data.toList) := by
  have h := rright_loop x hs x.size 0 (by omega)
  rw [List.drop_zero, ← okn_okE] at h
  exact h
theorem rsplit_loop (x : ByteArray) (hs : x.size ≤ 255) : ∀ (n from_ i : Nat) (acc : List ByteArray), x.size = i + n → 1 ≤ from_ → from_ ≤ i → acc.length ≤ i →
    Ev (fun k => wainwrightref06_Split.l0 k x acc (from_ : Int) (i : Int)) (if (splc ((x.data.toList.take i).drop from_) (x.data.toList.drop i)).all okn = true then (acc ++ (splc ((x.data.toList.take i).drop from_) (x.data.toList.drop i)).map B, 0) else ([], 4))
  | 0, from_, i, acc, h, h1, h2, h3 => by
    have hl : x.data.toList.length = x.size := (Lib.size_eq x).symm
    rw [List.drop_eq_nil_of_le (show x.data.toList.length ≤ i by omega)]
    simp only [splc, List.all_cons, List.all_nil, Bool.and_true, List.map_cons, List.map_nil]
    refine Ev.step (f := fun k => wainwrightref06_Split.j2 k x acc (from_ : Int) (i : Int) true) (fun k => ?_) ?_
    · simp only [wainwrightref06_Split.l0]
      rw [if_pos (by omega), if_pos (by omega)]
    · refine Ev.step (f := fun k => (wainwrightref06_Right.f k (B ((x.data.toList.take i).drop from_))).bind fun t => if t = true then wainwrightref06_Split.l0 k x (acc ++ [B ((x.data.toList.take i).drop from_)]) ((i + 1 : Nat) : Int) ((i + 1 : Nat) : Int) else some ([], 4)) (fun k => ?_) ?_
      · simp only [wainwrightref06_Split.j2]
        rw [if_pos trivial, if_pos (by omega), if_pos (by omega), if_pos (by omega), ext_eq, wrap_in _ (by omega) (by omega), if_pos (show acc.length < 8796093022208 by omega)]
        rfl
      · refine Ev.bind (rright_ev _ (by rw [B_size]; simp; omega)) ?_
        rw [B_data]
        by_cases hk : okn ((x.data.toList.take i).drop from_) = true
        · simp only [hk, if_true]
          refine Ev.step (f := fun _ => some (acc ++ [B ((x.data.toList.take i).drop from_)], 0)) (fun k => ?_) (Ev.now _)
          simp only [wainwrightref06_Split.l0]
          rw [if_neg (by omega)]
        · simp only [hk, Bool.false_eq_true, if_false]
          exact Ev.now _
  | n + 1, from_, i, acc, h, h1, h2, h3 => by
    have hl : x.data.toList.length = x.size := (Lib.size_eq x).symm
    have hi : i < x.data.toList.length := by omega
    have hd : x.data.toList.drop i = x.data.toList[i] :: x.data.toList.drop (i + 1) := List.drop_eq_getElem_cons hi
    have ht : x.data.toList.take (i + 1) = x.data.toList.take i ++ [x.data.toList[i]] := by rw [List.take_add_one, List.getElem?_eq_getElem hi]; rfl
    rw [hd]
    refine Ev.step (f := fun k => wainwrightref06_Split.j2 k x acc (from_ : Int) (i : Int) ((bt x (i : Int)) == 47)) (fun k => ?_) ?_
    · simp only [wainwrightref06_Split.l0]
      rw [if_pos (by omega), if_neg (by omega), if_pos (by omega), if_pos (by omega)]
    · rw [bt_B x i hi]
      by_cases hb : x.data.toList[i] = 47
      · have hb' : ((((x.data.toList[i]).toNat : Int)) == 47) = true := by rw [hb]; rfl
        rw [hb', splc, if_pos hb]
        refine Ev.step (f := fun k => (wainwrightref06_Right.f k (B ((x.data.toList.take i).drop from_))).bind fun t => if t = true then wainwrightref06_Split.l0 k x (acc ++ [B ((x.data.toList.take i).drop from_)]) ((i + 1 : Nat) : Int) ((i + 1 : Nat) : Int) else some ([], 4)) (fun k => ?_) ?_
        · simp only [wainwrightref06_Split.j2]
          rw [if_pos trivial, if_pos (by omega), if_pos (by omega), if_pos (by omega), ext_eq, wrap_in _ (by omega) (by omega), if_pos (show acc.length < 8796093022208 by omega)]
          rfl
        · refine Ev.bind (rright_ev _ (by rw [B_size]; simp; omega)) ?_
          rw [B_data]
          by_cases hk : okn ((x.data.toList.take i).drop from_) = true
          · have ih := rsplit_loop x hs n (i + 1) (i + 1) (acc ++ [B ((x.data.toList.take i).drop from_)]) (by omega) (by omega) (by omega) (by simp; omega)
            rw [show (x.data.toList.take (i + 1)).drop (i + 1) = [] by apply List.drop_eq_nil_of_le; simp; omega] at ih
            simp only [hk, if_true, List.all_cons, Bool.true_and, List.map_cons]
            simpa using ih
          · simp only [hk, Bool.false_eq_true, if_false, List.all_cons, Bool.false_and]
            exact Ev.now _
      · have hb' : ((((x.data.toList[i]).toNat : Int)) == 47) = false := by
          refine beq_eq_false_iff_ne.2 (fun e => hb ?_)
          apply UInt8.toNat.inj
          show (x.data.toList[i]).toNat = 47
          omega
        rw [hb', splc, if_neg hb]
        have ih := rsplit_loop x hs n from_ (i + 1) acc (by omega) (by omega) (by omega) (by omega)
        rw [ht, List.drop_append_of_le_length (by simp; omega)] at ih
        refine Ev.step (f := fun k => wainwrightref06_Split.l0 k x acc (from_ : Int) ((i + 1 : Nat) : Int)) (fun k => ?_) ih
        simp only [wainwrightref06_Split.j2]
        rw [if_neg (by decide), wrap_in _ (by omega) (by omega)]
        rfl
theorem rsplit_ev (x : ByteArray) : Ev (fun k => wainwrightref06_Split.f k x) (spS x.data.toList) := by
  have hl : x.data.toList.length = x.size := (Lib.size_eq x).symm
  unfold wainwrightref06_Split.f
  simp only [Lib.toList_data]
  by_cases h0 : x.data.toList = [47]
  · simp only [if_pos h0]
    rw [h0]
    exact Ev.now _
  · simp only [if_neg h0]
    have bad : Ev (fun k => wainwrightref06_Split.j0 k x true) ([], 4) := Ev.step (f := fun _ => some ([], 4)) (fun k => by simp only [wainwrightref06_Split.j0]; rw [if_pos trivial]) (Ev.now _)
    by_cases h1 : (x.size : Int) < 2
    · simp only [if_pos h1]
      have : spS x.data.toList = ([], 4) := by
        match hx : x.data.toList with
        | [] => rfl
        | [b] => 
          simp only [spS]
          rw [if_neg]
          intro e
          exact h0 (by rw [hx, e])
        | a :: b :: r => rw [hx] at hl; simp at hl; omega
      rw [this]
      exact bad
    · simp only [if_neg h1]
      by_cases h2 : (x.size : Int) > 255
      · simp only [if_pos h2]
        have : spS x.data.toList = ([], 4) := by
          match hx : x.data.toList with
          | [] => rfl
          | b :: r =>
            rw [hx] at hl
            simp only [spS]
            split
            · rw [if_pos (by simp at hl; omega)]
            · rfl
        rw [this]
        exact bad
      · simp only [if_neg h2]
        simp only [if_pos (show 0 < (x.size : Int) by omega)]
        match hx : x.data.toList with
        | [] => rw [hx] at hl; simp at hl; omega
        | b :: r =>
          have h3 : bt x (0 : Int) = (b.toNat : Int) := by
            have := bt_B x 0 (by omega)
            simp only [hx, List.getElem_cons_zero] at this
            exact this
          have hr : r.length + 1 = x.size := by rw [← hl, hx]; rfl
          by_cases hb : b = 47
          · have hb' : (bt x 0 != 47) = false := by rw [h3, hb]; rfl
            have ih := rsplit_loop x (by omega) (x.size - 1) 1 1 [] (by omega) (by omega) (by omega) (by simp)
            rw [hx] at ih
            have hne : r ≠ [] := fun e => by rw [e] at hr; simp at hr; omega
            simp only [hb']
            simp only [spS]
            rw [if_pos hb, if_neg (by omega), if_neg hne]
            refine Ev.step (f := fun k => wainwrightref06_Split.l0 k x [] 1 1) (fun k => by simp only [wainwrightref06_Split.j0]; rw [if_neg (by decide)]) ?_
            simpa using ih
          · have hb' : (bt x 0 != 47) = true := by
              rw [h3]
              refine bne_iff_ne.2 (fun e => hb ?_)
              apply UInt8.toNat.inj
              show b.toNat = 47
              omega
            simp only [hb']
            simp only [spS]
            rw [if_neg hb]
            exact bad
end Go.Proofs.YtahjalabhlakaacDoor.Pure
