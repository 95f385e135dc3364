/- What glob.cut and glob.parts do at any pattern: what Gl says. Conditions: as the theorems state them. -/
import Derived.Test.YtefomcoimbnalaaDoorGlC
import Derived.Laws.AppendOwn
import Derived.Laws.OwnMore
namespace Go.Proofs.YtefomcoimbnalaaDoor.Gw
open Go Go.RowKit Go.Gl
set_option maxRecDepth 100000
set_option maxHeartbeats 8000000
theorem cut_calls (x : ByteArray) (hz : 0 < x.size) (hs : x.size ≤ 1000) :
    (∃ y z : ByteArray, cutS x.data.toList = some (y.data.toList, z.data.toList) ∧ ∀ w : World, Calls Tryd.prog 26 #[.string x] w fun e w' => e = .returned (.tuple #[.string y, .string z, .bool true]) ∧ Below w.heap.size w w') ∨
    (cutS x.data.toList = none ∧ ∀ w : World, Calls Tryd.prog 26 #[.string x] w fun e w' => e = .returned (.tuple #[.string ⟨#[]⟩, .string ⟨#[]⟩, .bool false]) ∧ Below w.heap.size w w') := by
  have full : ∀ k, (x.data.toList.take x.size).drop k = x.data.toList.drop k := fun k => by rw [List.take_of_length_le (by rw [← sz]; exact Nat.le_refl _)]
  cases hx : x.data.toList with
  | nil => rw [sz, hx] at hz; exact absurd hz (Nat.lt_irrefl _)
  | cons a t =>
    have hlen : x.size = t.length + 1 := by rw [sz, hx]; rfl
    have g0 : x[0] = a := by have := at_list x 0 hz; rw [hx] at this; simpa using this.symm
    by_cases h1 : a = 92
    · subst h1
      cases t with
      | nil => exact Or.inr ⟨by simp [cutS], cut_esc0 x hz g0 (by rw [hlen]; simp)⟩
      | cons b r =>
        refine Or.inl ⟨x.extract 0 2, x.extract 2 x.size, ?_, cut_esc x hz g0 (by rw [hlen]; simp)⟩
        rw [ext_list, ext_list, full, hx]
        simp [cutS]
    · by_cases h2 : a = 91
      · subst h2
        have e2 : ((x.extract 0 2).toList == [91, 33]) = (t.head? == some 33) := by
          rw [dl, ext_list, hx]
          cases t with
          | nil => rfl
          | cons b r => by_cases hb : b = 33 <;> simp [hb]
        have key : ∀ k, (∀ m, (x.extract k m).data.toList = ((91 :: t).take m).drop k) := fun k m => by rw [ext_list, hx]
        have hcut : cutS (91 :: t) = if (91 :: t).length < skip t then none else if Lib.indexByte ((91 :: t).drop (skip t)) 93 < 0 then none else some ((91 :: t).take (skip t + (Lib.indexByte ((91 :: t).drop (skip t)) 93).toNat + 1), (91 :: t).drop (skip t + (Lib.indexByte ((91 :: t).drop (skip t)) 93).toNat + 1)) := by
          unfold cutS
          dsimp only
          rw [if_neg (by decide), if_pos rfl]
        have main : ∀ (k : Nat) (kb : Bool), skip t = k → kb = (decide (2 ≤ x.size) && ((x.extract 0 2).toList == [91, 33])) →
            (∀ (i : Nat), k ≤ x.size → Lib.indexByte (x.extract k x.size).data.toList 93 = (i : Int) → k + i < x.size → ∀ w : World, Calls Tryd.prog 26 #[.string x] w fun e w' => e = .returned (.tuple #[.string (x.extract 0 (k + i + 1)), .string (x.extract (k + i + 1) x.size), .bool true]) ∧ Below w.heap.size w w') →
            ((x.size < k ∨ (k ≤ x.size ∧ Lib.indexByte (x.extract k x.size).data.toList 93 = -1)) → ∀ w : World, Calls Tryd.prog 26 #[.string x] w fun e w' => e = .returned (.tuple #[.string ⟨#[]⟩, .string ⟨#[]⟩, .bool false]) ∧ Below w.heap.size w w') →
            (∃ y z : ByteArray, cutS (91 :: t) = some (y.data.toList, z.data.toList) ∧ ∀ w : World, Calls Tryd.prog 26 #[.string x] w fun e w' => e = .returned (.tuple #[.string y, .string z, .bool true]) ∧ Below w.heap.size w w') ∨
            (cutS (91 :: t) = none ∧ ∀ w : World, Calls Tryd.prog 26 #[.string x] w fun e w' => e = .returned (.tuple #[.string ⟨#[]⟩, .string ⟨#[]⟩, .bool false]) ∧ Below w.heap.size w w') := by
          intro k kb hk _ hyes hno
          rw [hcut, hk]
          have hl : (91 :: t).length = x.size := by rw [hlen]; rfl
          by_cases hlt : x.size < k
          · exact Or.inr ⟨by rw [if_pos (by rw [hl]; exact hlt)], hno (Or.inl hlt)⟩
          · rw [if_neg (by rw [hl]; exact hlt)]
            have hd : (x.extract k x.size).data.toList = (91 :: t).drop k := by rw [ext_list, full, hx]
            have hb := idx_le ((91 :: t).drop k) 93
            rw [List.length_drop, hl] at hb
            by_cases hneg : Lib.indexByte ((91 :: t).drop k) 93 < 0
            · exact Or.inr ⟨by rw [if_pos hneg], hno (Or.inr ⟨by omega, by rw [hd]; omega⟩)⟩
            · rw [if_neg hneg]
              have hi : Lib.indexByte (x.extract k x.size).data.toList 93 = ((Lib.indexByte ((91 :: t).drop k) 93).toNat : Int) := by rw [hd]; omega
              refine Or.inl ⟨_, _, ?_, hyes _ (by omega) hi (by omega)⟩
              rw [key, ext_list, full, hx]
              rfl
        by_cases h3 : t.head? = some 33
        · have hk : skip t = 3 := by unfold skip; rw [if_pos h3]
          have hkb : true = (decide (2 ≤ x.size) && ((x.extract 0 2).toList == [91, 33])) := by
            rw [e2, h3]
            have : 1 ≤ t.length := by cases t with | nil => cases h3 | cons _ _ => simp
            rw [decide_eq_true (by omega)]; rfl
          exact main 3 true hk hkb (fun i hk hi hlt => cut_set3 x hz hs g0 hkb hk i hi hlt) (fun hn => cut_setn3 x hz hs g0 hkb hn)
        · have hk : skip t = 2 := by unfold skip; rw [if_neg h3]
          have hkb : false = (decide (2 ≤ x.size) && ((x.extract 0 2).toList == [91, 33])) := by
            rw [e2, beq_eq_false_iff_ne.2 h3, Bool.and_false]
          exact main 2 false hk hkb (fun i hk hi hlt => cut_set2 x hz hs g0 hkb hk i hi hlt) (fun hn => cut_setn2 x hz hs g0 hkb hn)
      · refine Or.inl ⟨x.extract 0 1, x.extract 1 x.size, ?_, cut_plain x hz (by rw [g0]; exact h1) (by rw [g0]; exact h2)⟩
        rw [ext_list, ext_list, full, hx]
        unfold cutS
        dsimp only
        rw [if_neg h1, if_neg h2]
        rfl
/-- texts in a row of cells -/
def SRow (w : World) (A : Option Addr) (L : List ByteArray) : Prop := ∀ (j : Nat) (x : ByteArray), L[j]? = some x → ∃ b o : Nat, A = some ⟨b, o, none⟩ ∧ w.cell? ⟨b, o + j, none⟩ = some (.string x)
theorem own_below {w w' : World} {B : Nat} {e : TypeId} {size : Nat} {v : Value} {n : Nat} {xs : List Value} (h : w.ownsRow B e size v n xs) (hb : Below w.heap.size w w') : w'.ownsRow B e size v n xs :=
  h.kept (row := none) ⟨hb.os, hb.tape, hb.output, hb.size, fun k hk _ => hb.block k hk⟩ (by cases v.ownBlock <;> simp)
theorem below_grown {W w w' : World} {row : Option Nat} (hb : Below W.heap.size W w) (hg : w.grownBy w' row) (hr : ∀ k, row = some k → W.heap.size ≤ k) : Below W.heap.size W w' :=
  ⟨hg.os.trans hb.os, hg.tape.trans hb.tape, hg.output.trans hb.output, Nat.le_trans hb.size hg.size, fun k hk => (hg.block k (Nat.lt_of_lt_of_le hk hb.size) (fun e => by have := hr k e.symm; omega)).trans (hb.block k hk)⟩
theorem own_srow {w : World} {B : Nat} {v : Value} {n : Nat} {L : List ByteArray} (h : w.ownsRow B 9 1 v n (L.map Value.string)) : ∃ A c, v = .slice A L.length c ∧ SRow w A L ∧ L.length ≤ c ∧ (A = none → c = 0) := by
  have hn : n = L.length := by have := h.1; rw [List.length_map] at this; omega
  subst hn
  rcases h.2 with ⟨rfl, hn⟩ | ⟨g, cap, cur, rfl, _, _, hle, _⟩
  · have : L = [] := List.eq_nil_of_length_eq_zero hn
    subst this
    exact ⟨none, 0, rfl, fun j x hj => by simp at hj, Nat.le_refl _, fun _ => rfl⟩
  · refine ⟨some ⟨g, 0, none⟩, cap, rfl, fun j x hj => ⟨g, 0, rfl, ?_⟩, hle, fun h => by cases h⟩
    have := h.cells (g := g) rfl j (.string x) (by rw [List.getElem?_map, hj]; rfl)
    rwa [Addr.add_lit] at this
theorem one_cell (w : World) (v : Value) (t : TypeId) : ∀ (j : Nat) (u : Value), [v][j]? = some u → (w.alloc (.cells #[v] t)).cell? (Addr.add ⟨w.heap.size, 0, none⟩ j) = some u := by
  intro j u hj
  cases j with
  | succ j => simp at hj
  | zero =>
    obtain rfl : v = u := by simpa using hj
    rw [Addr.add_lit]
    unfold World.cell?
    simp only [heap_alloc_new]
    rfl
def PartsPost (l : Option (List (List UInt8))) (e : Ending) (w' : World) : Prop := match l with
  | none => e = .returned (.tuple #[.slice none 0 0, .bool false])
  | some l => ∃ (A : Option Addr) (c : Nat) (L : List ByteArray), L.map (·.data.toList) = l ∧ e = .returned (.tuple #[.slice A L.length c, .bool true]) ∧ SRow w' A L ∧ L.length ≤ c ∧ (A = none → c = 0)
theorem parts_calls (x0 : ByteArray) (hs : x0.size ≤ 1000) (w : World) : Calls Tryd.prog 15 #[.string x0] w fun e w' => PartsPost (partsS x0.data.toList) e w' ∧ Below w.heap.size w w' := by
  have HB := Aside0.mk (Below.refl w.heap.size w)
  go_enter Tryd.func15, Tryd.ntmps15
  go_wp2
  go_loopg [0, 4] x0.size (fun kq v0 v4 wx => ∃ (x : ByteArray) (L : List ByteArray), v0 = .string x ∧ x.size ≤ kq ∧ x.size + L.length ≤ 1000 ∧ Aside0 (partsS x0.data.toList = (partsS x.data.toList).map (L.map (·.data.toList) ++ ·)) ∧ wx.ownsRow w.heap.size 9 1 v4 L.length (L.map Value.string) ∧ Aside0 (Below w.heap.size w wx))
  case atStart => exact ⟨x0, [], rfl, Nat.le_refl _, by simpa using hs, ⟨by cases partsS x0.data.toList <;> rfl⟩, World.ownsRow_nil _ _ _ _, HB⟩
  case round =>
    obtain ⟨x, L, rfl, hk, hL, HP, hown, HB⟩ := hrel
    by_cases hz : 0 < x.size
    · have e0 : x.toList.isEmpty = false := by
        rw [dl]
        cases hx : x.data.toList with
        | nil => rw [sz, hx] at hz; exact absurd hz (Nat.lt_irrefl _)
        | cons a t => rfl
      obtain ⟨k1, rfl⟩ : ∃ k1, gk = k1 + 1 := ⟨gk - 1, by omega⟩
      have hne : x.data.toList ≠ [] := by intro e; rw [sz, e] at hz; exact absurd hz (Nat.lt_irrefl _)
      have hpx := partsS_cut hne
      rcases cut_calls x hz (by omega) with ⟨y, z, hc, cc⟩ | ⟨hc, cc⟩
      · have CC := fun W : World => Aside0.mk (cc W)
        have HW := Aside0.mk hown
        have hzlt := (cutS_lt hc).1
        rw [← sz, ← sz] at hzlt
        have HP2 : Aside0 (partsS x0.data.toList = (partsS z.data.toList).map ((L ++ [y]).map (·.data.toList) ++ ·)) := ⟨by
          rw [HP.out, hpx, hc]
          simp only [Option.bind_some, Option.map_map]
          congr 1
          funext l
          simp⟩
        clear cc hown HP hpx hc
        go_wp2_with (first
          | (at_builtin; refine wpList_append_own _ rfl _ _ 32 rfl w.heap.size 9 ((Tryd.prog.info? 9).get (by kernel_rfl)) (.string ByteArray.empty) 1 16 Tryd.underlying32 (by kernel_rfl) (by kernel_rfl) (by kernel_rfl) (by kernel_rfl) rfl (by decide) _ L.length (L.map Value.string) rfl (HW.out.alloc _) ⟨w'.heap.size, 0, none⟩ 1 1 [.string y] rfl rfl (one_cell w' (.string y) 9) (by simp [Value.oneCell']) (by unfold maxLen; omega) (by omega) (HB.out.alloc HB.out.size _).size ?_; intro v5 w5 ho5 hg5 _)
          | (go_at_call 26; (with_reducible refine (CC _).out.mono ?_); rintro e w' ⟨rfl, hb⟩; replace HW := Aside0.mk (own_below HW.out hb); replace HB := Aside0.mk (HB.out.trans (hb.mono HB.out.size)); clear hb))
        go_roundg k1
        case measure => omega
        case rel => exact ⟨z, L ++ [y], rfl, by omega, by rw [List.length_append]; simp only [List.length_singleton]; omega, HP2, by rw [List.length_append, List.map_append]; exact ho5, ⟨below_grown (HB.out.alloc HB.out.size _) hg5 (fun k hk => (HW.out.lt k hk).1)⟩⟩
      · have CC := fun W : World => Aside0.mk (cc W)
        have HP2 : Aside0 (partsS x0.data.toList = none) := ⟨by rw [HP.out, hpx, hc]; rfl⟩
        clear cc hown HP hpx hc
        go_wp2_with (go_at_call 26; (with_reducible refine (CC _).out.mono ?_); rintro e w' ⟨rfl, hb⟩; replace HB := Aside0.mk (HB.out.trans (hb.mono HB.out.size)); clear hb)
        go_ret2
        exact ⟨by rw [HP2.out]; rfl, HB.out⟩
    · have hx : x.data.toList = [] := List.eq_nil_of_length_eq_zero (by rw [← sz]; omega)
      have e0 : x.toList.isEmpty = true := by rw [dl, hx]; rfl
      have HP2 : Aside0 (partsS x0.data.toList = some (L.map (·.data.toList))) := ⟨by rw [HP.out, hx, partsS_nil]; simp⟩
      obtain ⟨A, c, rfl, hr, hle, hA⟩ := own_srow hown
      have HR := Aside0.mk hr
      clear hown HP hx hz hr
      go_wp2
      go_ret2
      exact ⟨by rw [HP2.out]; exact ⟨A, c, L, rfl, rfl, HR.out, hle, hA⟩, HB.out⟩
end Go.Proofs.YtefomcoimbnalaaDoor.Gw
