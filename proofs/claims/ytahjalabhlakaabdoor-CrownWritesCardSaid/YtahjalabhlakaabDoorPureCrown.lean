/- The plain laws behind CrownWrites and CrownReads: a crown's block, written and read, is what the document says. Conditions: as the theorems state them. -/
import Derived.Test.YtahjalabhlakaabDoorMouldW
import Derived.Test.YtahjalabhlakaabDoorGCrwx6
import Derived.Test.YtahjalabhlakaabDoorGCrwx9
import Derived.Test.YtahjalabhlakaabDoorGCrwx8
namespace Go.Proofs.YtahjalabhlakaabDoor.Pure
open Go.RowKit Go.Proofs.YtahjalabhlakaabDoor.GCrw Go.Proofs.YtahjalabhlakaabDoorW.PrintWords Go.Proofs.YtahjalabhlakaabDoorW.PrintLast Go.Proofs.YtahjalabhlakaabDoorW.PrintMore Go.Proofs.YtahjalabhlakaabDoor.Plain Go.Proofs.YtahjalabhlakaabDoor.Mould
def rightB (f b c : Int) : Bool := decide (64 ≤ b) && decide (b ≤ 400) && (((f == 1 || f == 2) && c == 0) || ((f == 3 || f == 4) && decide (0 ≤ c) && decide (c ≤ 32)))
theorem right_eq (k : Nat) (f b c : Int) : crown_Right.f (k + 1 + 1) f b c = some (rightB f b c) := by
  simp only [crown_Right.f, crown_Right.j0, crown_Right.j1, rightB]
  by_cases h1 : b < 64
  · rw [if_pos h1, if_pos trivial, decide_eq_false (by omega : ¬ 64 ≤ b)]; rfl
  · rw [if_neg h1, decide_eq_true (by omega : 64 ≤ b)]
    by_cases h2 : b > 400
    · rw [decide_eq_true h2, if_pos rfl, decide_eq_false (by omega : ¬ b ≤ 400)]; rfl
    · rw [decide_eq_false h2, if_neg (by decide), decide_eq_true (by omega : b ≤ 400)]
      by_cases h3 : f = 1
      · subst h3; simp
      · rw [if_neg h3]
        by_cases h4 : f = 2
        · subst h4; simp
        · by_cases h5 : f = 3
          · subst h5
            by_cases h6 : 0 ≤ c <;> simp [h6]
          · by_cases h6 : f = 4
            · subst h6
              by_cases h7 : 0 ≤ c <;> simp [h7]
            · simp [h3, h4, h5, h6]
theorem rright_eq (k : Nat) (f b c : Int) : wainwrightref10_Right.f (k + 1) f b c = some (rightB f b c) := by
  simp only [wainwrightref10_Right.f, wainwrightref10_Right.j0, rightB]
  by_cases h1 : b < 64
  · rw [if_pos h1, if_pos trivial, decide_eq_false (by omega : ¬ 64 ≤ b)]; rfl
  · rw [if_neg h1, decide_eq_true (by omega : 64 ≤ b)]
    by_cases h2 : b > 400
    · rw [decide_eq_true h2, if_pos rfl, decide_eq_false (by omega : ¬ b ≤ 400)]; rfl
    · rw [decide_eq_false h2, if_neg (by decide), decide_eq_true (by omega : b ≤ 400)]
      by_cases h3 : f = 1
      · subst h3; simp
      · rw [if_neg h3]
        by_cases h4 : f = 2
        · subst h4; simp
        · rw [if_neg h4]
          by_cases h5 : f = 3
          · subst h5
            by_cases h6 : 0 ≤ c <;> simp [h6]
          · rw [if_neg h5]
            by_cases h6 : f = 4
            · subst h6
              by_cases h7 : 0 ≤ c <;> simp [h7]
            · simp [h3, h4, h5, h6]
theorem right_ev (f b c : Int) : Ev (fun k => crown_Right.f k f b c) (rightB f b c) := ⟨2, fun k hk => by obtain ⟨j, rfl⟩ : ∃ j, k = j + 1 + 1 := ⟨k - 2, by omega⟩; exact right_eq j f b c⟩
theorem rright_ev (f b c : Int) : Ev (fun k => wainwrightref10_Right.f k f b c) (rightB f b c) := ⟨1, fun k hk => by obtain ⟨j, rfl⟩ : ∃ j, k = j + 1 := ⟨k - 1, by omega⟩; exact rright_eq j f b c⟩
theorem right_bounds {f b c : Int} (h : rightB f b c = true) : 1 ≤ f ∧ f ≤ 4 ∧ 64 ≤ b ∧ b ≤ 400 ∧ 0 ≤ c ∧ c ≤ 32 := by
  unfold rightB at h
  simp only [Bool.and_eq_true, Bool.or_eq_true, decide_eq_true_eq, beq_iff_eq] at h
  omega
def ofI (n : Int) : UInt8 := UInt8.ofNat n.toNat
def sgn : List UInt8 := [119, 97, 105, 110, 119, 114, 105, 103, 104, 116]
def sign : ByteArray := ⟨#[119, 97, 105, 110, 119, 114, 105, 103, 104, 116]⟩
/-- A crown's block of three numbers. -/
def blockL (f b c : Int) : List UInt8 := sgn ++ (le 1 f ++ (le 2 b ++ le 1 c)).map ofI ++ List.replicate 114 0
def blockC (f b c : Int) : ByteArray := ⟨(blockL f b c).toArray⟩
theorem enc_right {f b c : Int} (h : rightB f b c = true) : encO [1, 2, 1] [f, b, c] = some (le 1 f ++ (le 2 b ++ le 1 c)) := by
  have hb := right_bounds h
  have e1 : (256 : Int) ^ (1 : Int).toNat = 256 := by decide
  have e2 : (256 : Int) ^ (2 : Int).toNat = 65536 := by decide
  have f1 : fitW 1 f = true := by unfold fitW; rw [e1, decide_eq_true (by omega : 0 ≤ f), decide_eq_true (by omega : f < 256)]; rfl
  have f2 : fitW 2 b = true := by unfold fitW; rw [e2, decide_eq_true (by omega : 0 ≤ b), decide_eq_true (by omega : b < 65536)]; rfl
  have f3 : fitW 1 c = true := by unfold fitW; rw [e1, decide_eq_true (by omega : 0 ≤ c), decide_eq_true (by omega : c < 256)]; rfl
  simp only [encO, f1, f2, f3, if_true, Option.map_some, List.append_nil]
  rfl
theorem wr_right {f b c : Int} (h : rightB f b c = true) : wrAll [1, 2, 1] [f, b, c] = (strOfNums (le 1 f ++ (le 2 b ++ le 1 c)), 0) := by
  unfold wrAll
  rw [enc_right h]
  rfl
theorem zeros_map (n : Nat) : (List.replicate n (0 : Int)).map (fun n => UInt8.ofNat n.toNat) = List.replicate n 0 := by
  rw [List.map_replicate]; rfl
theorem block_eq (f b c : Int) : (sign ++ strOfNums (le 1 f ++ (le 2 b ++ le 1 c))) ++ strOfNums (List.replicate 114 0) = blockC f b c := by
  apply ByteArray.ext
  simp only [ByteArray.data_append]
  apply Array.ext'
  simp only [Array.toList_append, strOfNums_data, zeros_map]
  rfl
theorem four_len (f b c : Int) : (le 1 f ++ (le 2 b ++ le 1 c)).length = 4 := by simp [le_length]
theorem sign4_size (f b c : Int) : (sign ++ strOfNums (le 1 f ++ (le 2 b ++ le 1 c))).size = 14 := by
  rw [ByteArray.size_append, strOfNums_size, four_len]; rfl
theorem extract_all (a : ByteArray) (h : a.size ≤ 128) : a.extract 0 128 = a := by
  apply ByteArray.ext
  rw [ByteArray.data_extract]
  apply Array.extract_eq_self_of_le
  exact h
theorem whole_of (a : ByteArray) (h : a.size ≤ 128) : wainwrightref02_Whole.f a = some (a ++ strOfNums (List.replicate (128 - a.size) 0)) := by
  unfold wainwrightref02_Whole.f
  rw [if_pos (by omega), extract_all a h]
theorem whole_block (f b c : Int) : wainwrightref02_Whole.f (sign ++ strOfNums (le 1 f ++ (le 2 b ++ le 1 c))) = some (blockC f b c) := by
  rw [whole_of _ (by rw [sign4_size]; decide), sign4_size, block_eq]
def crW (f b c : Int) : ByteArray × Int := if rightB f b c = true then (blockC f b c, 0) else (⟨#[]⟩, 1)
theorem write_crown (f b c : Int) : Ev (fun k => crown_Write.f k f b c) (crW f b c) := by
  refine Ev.bind (right_ev f b c) ?_
  unfold crW
  by_cases h : rightB f b c = true
  · rw [if_pos h]
    refine Ev.congr (fun k => by rw [if_pos h]; rfl) (Ev.bind (write_ev [1, 2, 1] [f, b, c] (by decide)) ?_)
    rw [wr_right h]
    refine Ev.congr (fun k => by rw [if_pos rfl, strOfNums_size, four_len, if_pos (by decide)]) ?_
    refine Ev.bind (pad_ev (sign ++ strOfNums (le 1 f ++ (le 2 b ++ le 1 c))) 128 (by decide) (by rw [sign4_size]; decide)) ?_
    rw [sign4_size, block_eq]
    exact Ev.now _
  · rw [if_neg h]
    exact Ev.congr (fun k => by rw [if_neg h]) (Ev.now _)
theorem rwrite_crown (f b c : Int) : Ev (fun k => wainwrightref10_Write.f k f b c) (crW f b c) := by
  refine Ev.bind (rright_ev f b c) ?_
  unfold crW
  by_cases h : rightB f b c = true
  · rw [if_pos h]
    refine Ev.congr (fun k => by rw [if_pos h]) (Ev.bind (rwrite_ev [1, 2, 1] [f, b, c] (by decide)) ?_)
    rw [wr_right h]
    refine Ev.congr (fun k => ?_) (Ev.now _)
    rw [strOfNums_size, four_len, if_pos (by decide)]
    have hw := whole_block f b c
    unfold sign at hw
    rw [hw]
    rfl
  · rw [if_neg h]
    exact Ev.congr (fun k => by rw [if_neg h]) (Ev.now _)
end Go.Proofs.YtahjalabhlakaabDoor.Pure
