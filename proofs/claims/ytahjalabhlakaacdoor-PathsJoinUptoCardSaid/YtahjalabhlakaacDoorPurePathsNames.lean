/- The plain law behind PathsNames. Conditions: none. -/
import Derived.Test.YtahjalabhlakaacDoorPurePaths
import Derived.Test.YtahjalabhlakaacDoorGPthx3
namespace Go.Proofs.YtahjalabhlakaacDoor.Pure
open Go.RowKit Go.Proofs.YtahjalabhlakaacDoor.GPth Go.Proofs.YtahjalabhlakaacDoorW.PrintWords Go.Proofs.YtahjalabhlakaacDoorW.PrintLast Go.Proofs.YtahjalabhlakaacDoorW.PrintMore Go.Proofs.YtahjalabhlakaacDoor.Plain
theorem lives_ev : Ev (fun k => wainwrightlaw06_lives.f k) true := Ev.of (k := 40) wainwrightlaw06_lives.mono (by kernel_rfl)
theorem spS_all (l : List UInt8) : ∃ L : List (List UInt8), (spS l).1 = L.map B ∧ L.all okn = true ∧ L.length ≤ 255 := by
  cases l with
  | nil => exact ⟨[], rfl, rfl, by simp⟩
  | cons b r =>
    simp only [spS]
    split
    · split
      · exact ⟨[], rfl, rfl, by simp⟩
      · split
        · exact ⟨[], rfl, rfl, by simp⟩
        · split
          · rename_i h
            have := splc_len r []
            exact ⟨splc [] r, rfl, h, by omega⟩
          · exact ⟨[], rfl, rfl, by simp⟩
    · exact ⟨[], rfl, rfl, by simp⟩
theorem spS_len (l : List UInt8) : (spS l).1.length ≤ 255 := by
  obtain ⟨L, h, _, hl⟩ := spS_all l
  rw [h, List.length_map]; exact hl
theorem rdOf_at (l : List ByteArray) (i : Nat) (h : i < l.length) : rdOf ByteArray.empty l (i : Int) = l[i] := by simp [rdOf, h]
theorem same_loop (l : List ByteArray) (hl : l.length ≤ 9223372036854775806) : ∀ n i : Nat, l.length = i + n → Ev (fun k => wainwrightref06_SameTexts.l0 k l l (i : Int)) true
  | 0, i, h => Ev.step (f := fun _ => some true) (fun k => by simp only [wainwrightref06_SameTexts.l0]; rw [if_neg (by omega)]) (Ev.now _)
  | n + 1, i, h => by
    refine Ev.step (f := fun k => wainwrightref06_SameTexts.l0 k l l ((i + 1 : Nat) : Int)) (fun k => ?_) (same_loop l hl n (i + 1) (by omega))
    simp only [wainwrightref06_SameTexts.l0]
    rw [if_pos (by omega), if_pos (by omega), if_pos (by omega), if_pos trivial, wrap_in _ (by omega) (by omega)]
    rfl
theorem same_ev (l : List ByteArray) (hl : l.length ≤ 255) : Ev (fun k => wainwrightref06_SameTexts.f k l l) true := by
  unfold wainwrightref06_SameTexts.f
  simp only [if_true]
  exact same_loop l (by omega) l.length 0 (by omega)
theorem split_ev (x : ByteArray) : Ev (fun k => paths_Split.f k x) (spS x.data.toList) := ⟨1, fun k hk => by obtain ⟨j, rfl⟩ : ∃ j, k = j + 1 := ⟨k - 1, by omega⟩; exact split_eq j x⟩
theorem PathsNames : wainwrightlaw06_PathsNames.Pure := by
  intro a0 a1 h0 h1
  refine Ev.rounds (Ev.bind lives_ev ?_)
  simp only [if_true]
  refine Ev.bind (split_ev a1) ?_
  refine Ev.bind (rsplit_ev a1) ?_
  have hr : paths_Right.f a0 = some (okn a0.data.toList) := by unfold paths_Right.f; rw [if_pos (by omega)]
  rw [hr]
  simp only [Option.bind_some]
  refine Ev.bind (rright_ev a0 h0) ?_
  simp only [beq_self_eq_true, if_true]
  refine Ev.bind (same_ev _ (spS_len _)) (Ev.now _)
theorem PathsNames_walk (a0 a1 : ByteArray) (W : World) (w0 : a0.size ≤ 140737488351232) (w1 : a1.size ≤ 140737488351232) :
    Calls Tryd.prog 3 #[.string a0, .string a1] W fun e w' => e = .returned (.bool true) ∧ Below W.heap.size W w' := by
  obtain ⟨k, hk⟩ := PathsNames a0 a1 w0 w1
  exact wainwrightlaw06_PathsNames.calls k a0 a1 true W hk
end Go.Proofs.YtahjalabhlakaacDoor.Pure
