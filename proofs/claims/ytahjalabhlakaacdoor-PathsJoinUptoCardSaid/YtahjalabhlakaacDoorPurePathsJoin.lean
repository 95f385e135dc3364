/- The plain law behind PathsJoin, for a row of names whose number and letters together are bounded. Conditions: as the theorems state them. -/
import Derived.Test.YtahjalabhlakaacDoorPurePathsBack
import Derived.Test.YtahjalabhlakaacDoorGPthx5
import Derived.Test.YtahjalabhlakaacDoorRows
import Derived.SliceStrings
namespace Go.Proofs.YtahjalabhlakaacDoor.Pure
open Go.RowKit Go.Proofs.YtahjalabhlakaacDoor.GPth Go.Proofs.YtahjalabhlakaacDoorW.PrintWords Go.Proofs.YtahjalabhlakaacDoorW.PrintLast Go.Proofs.YtahjalabhlakaacDoorW.PrintMore Go.Proofs.YtahjalabhlakaacDoor.Plain
def bulk : List (List UInt8) → Nat
  | [] => 0
  | x :: L => x.length + 1 + bulk L
theorem bulk_len : ∀ L : List (List UInt8), L.length ≤ bulk L
  | [] => Nat.le_refl _
  | x :: L => by have := bulk_len L; simp only [bulk, List.length_cons]; omega
theorem bulk_mem : ∀ (L : List (List UInt8)), ∀ x ∈ L, x.length ≤ bulk L
  | [], x, h => by simp at h
  | y :: L, x, h => by
    simp only [bulk]
    rcases List.mem_cons.1 h with h | h
    · subst h; omega
    · have := bulk_mem L x h; omega
theorem bulk_fl : ∀ L : List (List UInt8), (fl L).length = bulk L
  | [] => by simp [fl, Lib.joinTail, bulk]
  | x :: L => by
    have := bulk_fl L
    rw [fl_cons]
    simp only [bulk, List.cons_append, List.length_cons, List.length_append]
    omega
theorem bulk_jn (L : List (List UInt8)) : (jn L).length ≤ bulk L + 1 := by
  cases L with
  | nil => simp [jn, Lib.join_nil]
  | cons x L => rw [jn_cons, bulk_fl]; omega
theorem of_B (l : List ByteArray) : (l.map (·.data.toList)).map B = l := by
  rw [List.map_map]
  conv => rhs; rw [← List.map_id l]
  exact List.map_congr_left (fun y _ => B_of y)
theorem PathsJoin (l : List ByteArray) (hb : bulk (l.map (·.data.toList)) ≤ 1048576) : ∃ k, wainwrightlaw06_PathsJoin.f k l = some true := by
  have h1 := of_B l
  generalize l.map (·.data.toList) = L at *
  subst h1
  have hlen := bulk_len L
  have hjn := bulk_jn L
  have hmem := bulk_mem L
  refine Ev.rounds (Ev.bind lives_ev ?_)
  simp only [if_true]
  rw [join_eq L (by omega) (by omega) (fun x hx => by have := hmem x hx; omega)]
  simp only [Option.bind_some]
  refine Ev.bind (rjoin_ev L (by omega) (fun x hx => by have := hmem x hx; omega)) ?_
  simp only [if_true]
  refine Ev.step (f := fun k => (paths_Split.f k (spJ L).1).bind fun bt229 => if (spJ L).2 = 0 then (if bt229.2 = 0 then ((wainwrightref06_SameTexts.f k (L.map B) bt229.1).bind fun t233 => some t233) else some false) else some true) (fun k => ?_) ?_
  · simp only [wainwrightlaw06_PathsJoin.j0]
    rw [if_neg (by simp)]
  · refine Ev.bind (split_ev _) ?_
    unfold spJ
    by_cases ha : L.all okn = true
    · simp only [if_pos ha]
      by_cases hl : 255 < (jn L).length
      · simp only [if_pos hl]
        exact Ev.now _
      · simp only [if_neg hl, B_data, spS_jn L ha (by omega), if_true]
        refine Ev.bind ?_ (Ev.now _)
        unfold wainwrightref06_SameTexts.f
        simp only [if_true]
        exact same_loop (L.map B) (by rw [List.length_map]; omega) (L.map B).length 0 (by omega)
    · simp only [if_neg ha]
      exact Ev.now _
theorem bulk_strs {H : Type} : ∀ l : List ByteArray, Rows.uptoBulkAll (H := H) (ChangeShapes.strs l) = bulk (l.map (·.data.toList))
  | [] => rfl
  | x :: l => by
    have := bulk_strs (H := H) l
    simp only [ChangeShapes.strs, List.map_cons, Rows.uptoBulkAll, Rows.uptoBulk, bulk] at this ⊢
    omega
theorem PathsJoin_none (W : World) : Calls Tryd.prog 5 #[.slice none 0 0] W fun e w' => e = .returned (.bool true) ∧ Below W.heap.size W w' := by
  obtain ⟨k, hk⟩ := PathsJoin [] (by decide)
  exact wainwrightlaw06_PathsJoin.calls k none 0 [] true W ⟨rfl, by decide, fun h => absurd h (by decide)⟩ (by decide) hk
theorem PathsJoin_some (W : World) (a : Addr) (c : Nat) (l : List ByteArray) (hc : l.length ≤ c) (hb : bulk (l.map (·.data.toList)) ≤ 1048576) (hx : ∀ i, i < l.length → W.cell? (a.add i) = some (.string (l.getD i ByteArray.empty))) :
    Calls Tryd.prog 5 #[.slice (some a) l.length c] W fun e w' => e = .returned (.bool true) ∧ Below W.heap.size W w' := by
  obtain ⟨k, hk⟩ := PathsJoin l hb
  have hl := bulk_len (l.map (·.data.toList))
  rw [List.length_map] at hl
  refine wainwrightlaw06_PathsJoin.calls k (some a) c l true W ⟨rfl, by omega, fun _ => ⟨a, rfl, fun j p hj => ⟨[.string p], rfl, rfl, fun i u hu => ?_⟩⟩⟩ hc hk
  obtain ⟨hj1, hj2⟩ := List.getElem?_eq_some_iff.1 hj
  have hi : i = 0 := by
    have := (List.getElem?_eq_some_iff.1 hu).1
    simp at this
    omega
  subst hi
  obtain rfl : Value.string p = u := by simpa using hu
  have := hx j hj1
  rw [List.getD_eq_getElem?_getD, hj] at this
  rw [show j * Kd.string.sz + 0 = j by show j * 1 + 0 = j; omega]
  exact this
end Go.Proofs.YtahjalabhlakaacDoor.Pure
