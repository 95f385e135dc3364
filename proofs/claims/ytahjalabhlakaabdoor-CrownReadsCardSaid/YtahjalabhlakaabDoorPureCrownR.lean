/- The plain law of a crown that is read. Conditions: as the theorems state them. -/
import Derived.Test.YtahjalabhlakaabDoorPureCrown
namespace Go.Proofs.YtahjalabhlakaabDoor.Pure
open Go.RowKit Go.Proofs.YtahjalabhlakaabDoor.GCrw Go.Proofs.YtahjalabhlakaabDoorW.PrintWords Go.Proofs.YtahjalabhlakaabDoorW.PrintLast Go.Proofs.YtahjalabhlakaabDoorW.PrintMore Go.Proofs.YtahjalabhlakaabDoor.Plain Go.Proofs.YtahjalabhlakaabDoor.Mould
theorem ofI_byte (b : UInt8) : ofI (b.toNat : Int) = b := by unfold ofI; simp
theorem bytes_back (l : List UInt8) : (l.map fun b => (b.toNat : Int)).map ofI = l := by
  rw [List.map_map]
  exact (List.map_congr_left (fun b _ => ofI_byte b)).trans (List.map_id' l)
theorem ints_back (l : List Int) (h : ∀ b ∈ l, 0 ≤ b ∧ b < 256) : (l.map ofI).map (fun b => (b.toNat : Int)) = l := by
  rw [List.map_map]
  refine (List.map_congr_left (fun b hb => ?_)).trans (List.map_id' l)
  have := h b hb
  show ((ofI b).toNat : Int) = b
  unfold ofI
  rw [UInt8.toNat_ofNat']
  omega
/-- What three numbers the bytes behind the sign are. -/
def v0 (L : List Int) : Int := unle (L.take 1)
def v1 (L : List Int) : Int := unle ((L.drop 1).take 2)
def v2 (L : List Int) : Int := unle (((L.drop 1).drop 2).take 1)
theorem dec3 (L : List Int) : dec [1, 2, 1] L = [v0 L, v1 L, v2 L] := rfl
theorem enc3 (L : List Int) (hl : 4 ≤ L.length) (hb : ∀ b ∈ L, 0 ≤ b ∧ b < 256) : le 1 (v0 L) ++ (le 2 (v1 L) ++ le 1 (v2 L)) = L.take 4 := by
  have h : encO [1, 2, 1] (dec [1, 2, 1] L) = some (L.take 4) := enc_dec (n := 4) L rfl (by omega) hb
  rw [dec3] at h
  have h2 : encO [1, 2, 1] [v0 L, v1 L, v2 L] = some (le 1 (v0 L) ++ (le 2 (v1 L) ++ le 1 (v2 L))) := by
    simp only [encO] at h ⊢
    split at h
    · rename_i h1
      rw [if_pos h1]
      split at h
      · rename_i h2
        rw [if_pos h2]
        split at h
        · rename_i h3
          rw [if_pos h3]
          simp only [Option.map_some, List.append_nil]
          rfl
        · cases h
      · cases h
    · cases h
  rw [h2] at h
  exact Option.some.inj h
def tl10 (s : ByteArray) : List Int := (bytesOf s).drop 10
/-- Is it a crown's block? -/
def isC (s : ByteArray) : Bool := decide (s.size = 128) && (s.data.toList.take 10 == sgn) && ((s.data.toList.drop 14).all (· == 0)) && rightB (v0 (tl10 s)) (v1 (tl10 s)) (v2 (tl10 s))
def crR (s : ByteArray) : Int × Int × Int × Int := if isC s = true then (v0 (tl10 s), v1 (tl10 s), v2 (tl10 s), 0) else (0, 0, 0, 15)
theorem size_list (s : ByteArray) : s.data.toList.length = s.size := by rw [Array.length_toList]; rfl
theorem tl10_byte (s : ByteArray) : ∀ b ∈ tl10 s, 0 ≤ b ∧ b < 256 := fun b hb => bytesOf_byte s b (List.mem_of_mem_drop hb)
theorem tl10_take (s : ByteArray) : ((tl10 s).take 4).map ofI = (s.data.toList.drop 10).take 4 := by
  unfold tl10 bytesOf
  rw [← List.map_drop, ← List.map_take, bytes_back]
theorem isC_block (s : ByteArray) : isC s = true ↔ rightB (v0 (tl10 s)) (v1 (tl10 s)) (v2 (tl10 s)) = true ∧ blockC (v0 (tl10 s)) (v1 (tl10 s)) (v2 (tl10 s)) = s := by
  have hlen := size_list s
  unfold isC
  simp only [Bool.and_eq_true, decide_eq_true_eq, beq_iff_eq, List.all_eq_true]
  constructor
  · rintro ⟨⟨⟨h1, h2⟩, h3⟩, h4⟩
    refine ⟨h4, ?_⟩
    apply ByteArray.ext
    apply Array.ext'
    have h3' : s.data.toList.drop 14 = List.replicate 114 0 := by
      rw [List.eq_replicate_iff]
      exact ⟨by rw [List.length_drop]; omega, fun b hb => by simpa using h3 b hb⟩
    show blockL _ _ _ = _
    unfold blockL
    rw [enc3 _ (by unfold tl10; rw [List.length_drop, bytesOf_length]; omega) (tl10_byte s), tl10_take, ← h2, ← h3']
    have : s.data.toList.drop 14 = (s.data.toList.drop 10).drop 4 := by rw [List.drop_drop]
    rw [this, List.append_assoc, List.take_append_drop, List.take_append_drop]
  · rintro ⟨h4, h5⟩
    have hd : s.data.toList = blockL (v0 (tl10 s)) (v1 (tl10 s)) (v2 (tl10 s)) := by
      have := congrArg (fun x : ByteArray => x.data.toList) h5
      exact this.symm
    have h6 : ((le 1 (v0 (tl10 s)) ++ (le 2 (v1 (tl10 s)) ++ le 1 (v2 (tl10 s)))).map ofI).length = 4 := by rw [List.length_map, four_len]
    unfold blockL at hd
    generalize (le 1 (v0 (tl10 s)) ++ (le 2 (v1 (tl10 s)) ++ le 1 (v2 (tl10 s)))).map ofI = M at hd h6
    have hd' : s.data.toList = sgn ++ M ++ List.replicate 114 0 := hd
    refine ⟨⟨⟨?_, ?_⟩, ?_⟩, h4⟩
    · rw [hd', List.length_append, List.length_append, h6, List.length_replicate] at hlen
      have : sgn.length = 10 := rfl
      omega
    · rw [hd', List.append_assoc, List.take_append_of_le_length (by decide)]; rfl
    · intro b hb
      rw [hd', List.drop_append_of_le_length (by rw [List.length_append, h6]; decide), List.drop_of_length_le (by rw [List.length_append, h6]; decide), List.nil_append] at hb
      simpa using (List.eq_of_mem_replicate hb)
theorem ev_const {α : Type} {x : Option α} {a : α} (h : x = some a) : Ev (fun _ => x) a := ⟨0, fun _ _ => h⟩
theorem cut_eq (s : ByteArray) : strings_CutPrefix.f s sign = some (if (s.data.toList.take 10 == sgn) = true then (s.extract 10 s.size, true) else (s, false)) := by
  have hz : sign.size = 10 := rfl
  have hlen := size_list s
  have ht : (s.extract 0 10).toList = s.data.toList.take 10 := by
    rw [Lib.toList_data, Lib.extract_upto]
  have hs : sign.toList = sgn := by rw [Lib.toList_data]; rfl
  unfold strings_CutPrefix.f stringslite_CutPrefix.f stringslite_HasPrefix.f
  rw [hz, hs]
  by_cases h : 10 ≤ s.size
  · rw [if_pos (by omega), if_pos (by decide), if_pos (by omega)]
    simp only [Option.bind_some]
    rw [show ((10 : Nat) : Int).toNat = 10 from rfl, ht]
    by_cases h2 : (s.data.toList.take 10 == sgn) = true
    · rw [if_pos h2, if_pos h2, if_pos (by decide), if_pos (by omega)]; rfl
    · rw [if_neg h2, if_neg h2]; rfl
  · rw [if_neg (by omega)]
    have h2 : ¬ (s.data.toList.take 10 == sgn) = true := by
      intro h3
      have h4 := congrArg List.length (beq_iff_eq.1 h3)
      rw [List.length_take] at h4
      have : sgn.length = 10 := rfl
      omega
    rw [if_neg h2]
    rfl
theorem trim_nil (l : List UInt8) : Lib.trimB l 0 = [] ↔ l.all (· == 0) = true := by
  have hdw : ∀ l : List UInt8, l.dropWhile (· == 0) = [] ↔ l.all (· == 0) = true := by
    intro l
    induction l with
    | nil => simp
    | cons b l ih =>
      rw [List.dropWhile_cons, List.all_cons]
      by_cases h : (b == 0) = true
      · rw [if_pos h, h, Bool.true_and]; exact ih
      · rw [if_neg h]; simp [h]
  unfold Lib.trimB Lib.trimLeftB Lib.trimRightB
  rw [hdw, List.all_reverse]
  constructor
  · intro h
    by_cases h2 : l.all (· == 0) = true
    · exact h2
    · exfalso
      have h3 : ¬ l.reverse.dropWhile (· == 0) = [] := by
        intro h4
        have := (hdw _).1 h4
        rw [List.all_reverse] at this
        exact h2 this
      obtain ⟨b, r, hr⟩ := List.exists_cons_of_ne_nil h3
      have h5 := List.head_dropWhile_not (· == 0) h3
      rw [hr] at h
      have h6 : (b == 0) = true := by
        have := List.all_eq_true.1 h b (by simp)
        exact this
      have h7 : (l.reverse.dropWhile (· == 0)).head h3 = b := by simp [hr]
      rw [h7] at h5
      rw [h6] at h5
      exact absurd h5 (by decide)
  · intro h
    have : l.reverse.dropWhile (· == 0) = [] := (hdw _).2 (by rw [List.all_reverse]; exact h)
    rw [this]; rfl
theorem trim_eq (a : ByteArray) (h : a.size ≤ 9223372036854775807) : strings_Trim.f a ⟨#[0]⟩ = some ⟨(Lib.trimB a.data.toList 0).toArray⟩ := by
  unfold strings_Trim.f
  rw [if_pos rfl, if_pos h]
theorem tail_list (s : ByteArray) : ((s.extract 10 s.size).extract 4 (s.extract 10 s.size).size).data.toList = s.data.toList.drop 14 := by
  rw [Lib.extract_from, Lib.extract_from]
  show (s.data.toList.drop 10).drop 4 = _
  rw [List.drop_drop]
theorem trim_tail (s : ByteArray) (h : s.size ≤ 9223372036854775807) : strings_Trim.f ((s.extract 10 s.size).extract (4 : Int).toNat (s.extract 10 s.size).size) ⟨#[0]⟩ = some ⟨(Lib.trimB (s.data.toList.drop 14) 0).toArray⟩ := by
  rw [show (4 : Int).toNat = 4 from rfl, trim_eq _ (by rw [ByteArray.size_extract, ByteArray.size_extract]; omega), tail_list]
theorem read_j0 (L : List Int) : Ev (fun k => crown_Read.j0 k [v0 L, v1 L, v2 L] false) (if rightB (v0 L) (v1 L) (v2 L) = true then (v0 L, v1 L, v2 L, 0) else (0, 0, 0, 15)) := by
  refine Ev.step (f := fun k => (crown_Right.f k (v0 L) (v1 L) (v2 L)).bind fun t => if t = true then some (v0 L, v1 L, v2 L, 0) else some (0, 0, 0, 15)) (fun k => ?_) ?_
  · simp only [crown_Read.j0]
    rw [if_neg (by decide), if_pos (by simp), if_pos (by simp), if_pos (by simp)]
    rfl
  · refine Ev.bind (right_ev _ _ _) ?_
    by_cases h : rightB (v0 L) (v1 L) (v2 L) = true
    · simp only [h, if_true]; exact Ev.now _
    · simp only [h]; exact Ev.now _
theorem read_bad (l : List Int) : Ev (fun k => crown_Read.j0 k l true) (0, 0, 0, 15) := by
  refine Ev.step (f := fun _ => some (0, 0, 0, 15)) (fun k => ?_) (Ev.now _)
  simp only [crown_Read.j0]; rw [if_pos trivial]
theorem crR_bad (s : ByteArray) (h : isC s = false) : crR s = (0, 0, 0, 15) := by unfold crR; rw [h]; rfl
theorem read_crown (s : ByteArray) (hs : s.size ≤ 9223372036854775807) : Ev (fun k => crown_Read.f k s) (crR s) := by
  have hc := cut_eq s
  unfold sign at hc
  have hlen := size_list s
  by_cases hp : (s.data.toList.take 10 == sgn) = true
  · rw [if_pos hp] at hc
    have hsz : (s.extract 10 s.size).size = s.size - 10 := by rw [ByteArray.size_extract]; omega
    refine Ev.bind (ev_const hc) ?_
    refine Ev.bind (ev_const (rfl : crown_widths.f = some [1, 2, 1])) ?_
    refine Ev.bind (read_ev [1, 2, 1] (s.extract 10 s.size) (by decide) (by omega)) ?_
    have hr : rdAll [1, 2, 1] (s.extract 10 s.size) = if ((s.extract 10 s.size).size : Int) < 4 then ([], 2) else (dec [1, 2, 1] (bytesOf (s.extract 10 s.size)), 0) := rfl
    rw [hr]
    by_cases h4 : ((s.extract 10 s.size).size : Int) < 4
    · rw [if_pos h4, crR_bad s (by unfold isC; rw [decide_eq_false (by omega)]; rfl)]
      exact Ev.congr (fun k => by rw [if_pos rfl, if_neg (by decide)]) (read_bad _)
    · rw [if_neg h4]
      by_cases h8 : s.size = 128
      · refine Ev.congr (fun k => by rw [if_pos rfl, if_pos rfl, if_pos (by omega)]) ?_
        refine Ev.bind (ev_const (rfl : crown_widths.f = some [1, 2, 1])) ?_
        refine Ev.bind (size_ev [1, 2, 1] (by decide)) ?_
        have hz : szI [1, 2, 1] = 4 := rfl
        rw [hz]
        have htr := trim_tail s (by omega)
        refine Ev.congr (fun k => by rw [if_pos (by decide), if_pos (show (4 : Int) ≤ ((s.extract 10 s.size).size : Int) by omega)]) ?_
        refine Ev.bind (ev_const htr) ?_
        have htl : bytesOf (s.extract 10 s.size) = tl10 s := bytesOf_tail s 10
        rw [htl]
        have hlist : (⟨(Lib.trimB (s.data.toList.drop 14) 0).toArray⟩ : ByteArray).toList = Lib.trimB (s.data.toList.drop 14) 0 := by rw [Lib.toList_data]
        rw [hlist]
        by_cases ha : (s.data.toList.drop 14).all (· == 0) = true
        · have hn := (trim_nil _).2 ha
          rw [hn]
          have hi : isC s = rightB (v0 (tl10 s)) (v1 (tl10 s)) (v2 (tl10 s)) := by
            unfold isC; rw [decide_eq_true h8, hp, ha]; rfl
          unfold crR
          rw [hi]
          exact read_j0 (tl10 s)
        · have hn : ¬ Lib.trimB (s.data.toList.drop 14) 0 = [] := fun h => ha ((trim_nil _).1 h)
          have hne : (Lib.trimB (s.data.toList.drop 14) 0 != []) = true := by simpa using hn
          rw [hne, crR_bad s (by unfold isC; rw [(by simpa using ha : (s.data.toList.drop 14).all (· == 0) = false)]; simp)]
          exact read_bad _
      · rw [crR_bad s (by unfold isC; rw [decide_eq_false h8]; rfl)]
        exact Ev.congr (fun k => by rw [if_pos rfl, if_pos rfl, if_neg (by omega)]) (read_bad _)
  · rw [if_neg hp] at hc
    refine Ev.bind (ev_const hc) ?_
    refine Ev.bind (ev_const (rfl : crown_widths.f = some [1, 2, 1])) ?_
    refine Ev.bind (read_ev [1, 2, 1] s (by decide) hs) ?_
    rw [crR_bad s (by unfold isC; rw [(by simpa using hp : (s.data.toList.take 10 == sgn) = false)]; simp)]
    exact Ev.congr (fun k => by rw [if_neg (show ¬ (false = true) by decide)]) (read_bad _)
theorem blockC_inj {s : ByteArray} {f b c : Int} : (blockC f b c).toList = s.toList ↔ blockC f b c = s := by
  constructor
  · intro h
    rw [Lib.toList_data, Lib.toList_data] at h
    exact ByteArray.ext (Array.ext' h)
  · intro h; rw [h]
theorem rread_crown (s : ByteArray) : Ev (fun k => wainwrightref10_Read.f k s) (crR s) := by
  by_cases h8 : s.size = 128
  · have hsz : (s.extract 10 s.size).size = s.size - 10 := by rw [ByteArray.size_extract]; omega
    refine Ev.congr (fun k => by unfold wainwrightref10_Read.f; rw [if_pos (by omega), if_pos (by omega)]) ?_
    refine Ev.bind (rread_ev [1, 2, 1] (s.extract 10 s.size) (by decide)) ?_
    have hr : rdAll [1, 2, 1] (s.extract 10 s.size) = if ((s.extract 10 s.size).size : Int) < 4 then ([], 2) else (dec [1, 2, 1] (bytesOf (s.extract 10 s.size)), 0) := rfl
    have htl : bytesOf (s.extract 10 s.size) = tl10 s := bytesOf_tail s 10
    rw [hr, if_neg (by omega), htl, dec3]
    refine Ev.congr (fun k => by rw [if_pos (by simp), if_pos (by simp), if_pos (by simp)]) ?_
    refine Ev.bind (rwrite_crown _ _ _) ?_
    have e0 : rd [v0 (tl10 s), v1 (tl10 s), v2 (tl10 s)] 0 = v0 (tl10 s) := rfl
    have e1 : rd [v0 (tl10 s), v1 (tl10 s), v2 (tl10 s)] 1 = v1 (tl10 s) := rfl
    have e2 : rd [v0 (tl10 s), v1 (tl10 s), v2 (tl10 s)] 2 = v2 (tl10 s) := rfl
    rw [e0, e1, e2]
    unfold crW
    have hi := isC_block s
    by_cases hr : rightB (v0 (tl10 s)) (v1 (tl10 s)) (v2 (tl10 s)) = true
    · rw [if_pos hr]
      by_cases hb : blockC (v0 (tl10 s)) (v1 (tl10 s)) (v2 (tl10 s)) = s
      · unfold crR
        rw [if_pos (hi.2 ⟨hr, hb⟩)]
        exact Ev.congr (fun k => by rw [if_pos rfl, if_pos (blockC_inj.2 hb)]) (Ev.now _)
      · rw [crR_bad s (by rw [Bool.eq_false_iff]; intro h; exact hb (hi.1 h).2)]
        exact Ev.congr (fun k => by rw [if_pos rfl, if_neg (fun h => hb (blockC_inj.1 h))]) (Ev.now _)
    · rw [if_neg hr, crR_bad s (by rw [Bool.eq_false_iff]; intro h; exact hr (hi.1 h).1)]
      exact Ev.congr (fun k => by rw [if_neg (by decide)]) (Ev.now _)
  · rw [crR_bad s (by unfold isC; rw [decide_eq_false h8]; rfl)]
    exact Ev.congr (fun k => by unfold wainwrightref10_Read.f; rw [if_neg (by omega)]) (Ev.now _)
end Go.Proofs.YtahjalabhlakaabDoor.Pure
