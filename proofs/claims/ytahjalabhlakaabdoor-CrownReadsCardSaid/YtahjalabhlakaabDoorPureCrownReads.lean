/- The plain law behind CrownReads: the crown of any bytes is what the document says; what is written is read again, and what is read is written as it was. Conditions: a string of at most 140737488351232 bytes (the reach of the given row). -/
import Derived.Test.YtahjalabhlakaabDoorPureCrownR
import Derived.Test.YtahjalabhlakaabDoorGCrwx10
namespace Go.Proofs.YtahjalabhlakaabDoor.Pure
open Go.RowKit Go.Proofs.YtahjalabhlakaabDoor.GCrw Go.Proofs.YtahjalabhlakaabDoorW.PrintWords Go.Proofs.YtahjalabhlakaabDoorW.PrintLast Go.Proofs.YtahjalabhlakaabDoorW.PrintMore Go.Proofs.YtahjalabhlakaabDoor.Plain Go.Proofs.YtahjalabhlakaabDoor.Mould
theorem lives_true : Ev (fun k => wainwrightlaw10_lives.f k) true := Ev.of (k := 40) wainwrightlaw10_lives.mono (by kernel_rfl)
theorem blockC_size (f b c : Int) : (blockC f b c).size = 128 := by
  rw [← block_eq, ByteArray.size_append, sign4_size, strOfNums_size, List.length_replicate]
theorem tl_block (f b c : Int) : tl10 (blockC f b c) = (le 1 f ++ (le 2 b ++ le 1 c)) ++ List.replicate 114 0 := by
  have hb : ∀ x ∈ le 1 f ++ (le 2 b ++ le 1 c), 0 ≤ x ∧ x < 256 := by
    intro x hx
    rcases List.mem_append.1 hx with hx | hx
    · exact le_byte _ _ _ hx
    · rcases List.mem_append.1 hx with hx | hx
      · exact le_byte _ _ _ hx
      · exact le_byte _ _ _ hx
  have e := ints_back _ hb
  have hl : ((le 1 f ++ (le 2 b ++ le 1 c)).map ofI).length = 4 := by rw [List.length_map, four_len]
  unfold tl10 bytesOf
  show ((blockL f b c).map (fun b => (b.toNat : Int))).drop 10 = _
  unfold blockL
  rw [← List.map_drop, List.append_assoc, List.drop_append_of_le_length (by decide), List.drop_of_length_le (by decide), List.nil_append, List.map_append, e, List.map_replicate]
  rfl
theorem dec_block {f b c : Int} (h : rightB f b c = true) : [v0 (tl10 (blockC f b c)), v1 (tl10 (blockC f b c)), v2 (tl10 (blockC f b c))] = [f, b, c] := by
  rw [← dec3, tl_block]
  exact dec_enc _ rfl (enc_right h)
theorem crR_block {f b c : Int} (h : rightB f b c = true) : crR (blockC f b c) = (f, b, c, 0) := by
  have hd := dec_block h
  simp only [List.cons.injEq, and_true] at hd
  obtain ⟨e0, e1, e2⟩ := hd
  have hi : isC (blockC f b c) = true := (isC_block _).2 (by rw [e0, e1, e2]; exact ⟨h, rfl⟩)
  unfold crR
  rw [if_pos hi, e0, e1, e2]
theorem CrownReads (f b c : Int) (s : ByteArray) (hs : s.size ≤ 140737488351232) : ∃ k, wainwrightlaw10_CrownReads.f k f b c s = some true := by
  refine Ev.rounds (Ev.bind lives_true ?_)
  refine Ev.congr (fun k => by rw [if_pos rfl]) ?_
  refine Ev.bind (read_crown s (by omega)) ?_
  refine Ev.bind (rread_crown s) ?_
  refine Ev.bind (write_crown f b c) ?_
  have hw : (crW f b c).1.size ≤ 9223372036854775807 := by
    unfold crW
    split
    · rw [blockC_size]; decide
    · decide
  refine Ev.bind (read_crown _ hw) ?_
  refine Ev.bind (write_crown _ _ _) ?_
  have h1 : ((crR s).1 == (crR s).1 && ((crR s).2.1 == (crR s).2.1 && ((crR s).2.2.1 == (crR s).2.2.1))) = true := by simp
  refine Ev.congr (fun k => by rw [if_pos h1, if_pos rfl]) ?_
  have last : Ev (fun _ => (if (crR s).2.2.2 = 0 then (if (crW (crR s).1 (crR s).2.1 (crR s).2.2.1).2 = 0 then (some ((crW (crR s).1 (crR s).2.1 (crR s).2.2.1).1.toList == s.toList)) else (some false)) else (some true))) true := by
    refine ev_const ?_
    by_cases hi : isC s = true
    · have hc := (isC_block s).1 hi
      have e : crR s = (v0 (tl10 s), v1 (tl10 s), v2 (tl10 s), 0) := by unfold crR; rw [if_pos hi]
      rw [e]
      have ew : crW (v0 (tl10 s)) (v1 (tl10 s)) (v2 (tl10 s)) = (s, 0) := by unfold crW; rw [if_pos hc.1, hc.2]
      show (if (0 : Int) = 0 then (if (crW (v0 (tl10 s)) (v1 (tl10 s)) (v2 (tl10 s))).2 = 0 then (some ((crW (v0 (tl10 s)) (v1 (tl10 s)) (v2 (tl10 s))).1.toList == s.toList)) else (some false)) else (some true)) = some true
      rw [ew, if_pos rfl, if_pos rfl, beq_self_eq_true]
    · rw [crR_bad s (by simpa using hi)]
      rfl
  by_cases hr : rightB f b c = true
  · have ew : crW f b c = (blockC f b c, 0) := by unfold crW; rw [if_pos hr]
    rw [ew, crR_block hr]
    have h2 : (f == f && (b == b && (c == c))) = true := by simp
    exact Ev.congr (fun k => by rw [if_pos rfl, if_pos rfl, if_pos h2]) last
  · have ew : (crW f b c).2 = 1 := by unfold crW; rw [if_neg hr]
    exact Ev.congr (fun k => by rw [ew, if_neg (by decide)]) last
theorem CrownReads_walk (a0 a1 a2 : Int) (a3 : ByteArray) (W : World) (_w0 : (Lit.int .i64 a0).wf = true) (_w1 : (Lit.int .i64 a1).wf = true) (_w2 : (Lit.int .i64 a2).wf = true) (w3 : a3.size ≤ 140737488351232) :
    Calls Tryd.prog 3 #[.agg #[.int .i64 a0, .int .i64 a1, .int .i64 a2], .string a3] W fun e w' => e = .returned (.bool true) ∧ Below W.heap.size W w' := by
  obtain ⟨k, hk⟩ := CrownReads a0 a1 a2 a3 w3
  exact wainwrightlaw10_CrownReads.calls k a0 a1 a2 a3 true W hk
end Go.Proofs.YtahjalabhlakaabDoor.Pure
