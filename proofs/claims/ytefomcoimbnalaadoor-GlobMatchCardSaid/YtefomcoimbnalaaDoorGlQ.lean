/- What ref28.Parts does at any pattern: what Gl says. Conditions: as the theorems state them. -/
import Derived.Test.YtefomcoimbnalaaDoorGlP
namespace Go.Proofs.YtefomcoimbnalaaDoor.Gw
open Go Go.RowKit Go.Gl
set_option maxRecDepth 100000
set_option maxHeartbeats 16000000
theorem rparts_calls (x : ByteArray) (hs : x.size ≤ 1000) (w : World) : Calls Tryd.prog 8 #[.string x] w fun e w' => RPost w.heap.size (partsS x.data.toList) e w' ∧ Below w.heap.size w w' := by
  have HB := Aside0.mk (Below.refl w.heap.size w)
  go_enter Tryd.func8, Tryd.ntmps8
  go_wp2
  go_loopg [4, 5] x.size (fun kq v4 v5 wx => ∃ (i : Nat) (ps : List (List UInt8)) (V : Value), V = v4 ∧ v5 = .int .i64 (i : Int) ∧ x.size ≤ i + kq ∧ i ≤ x.size ∧ ps.length ≤ i ∧ Aside0 (partsS x.data.toList = (partsS (x.data.toList.drop i)).map (ps ++ ·)) ∧ Aside0 (wx.ownsRow w.heap.size 36 257 v4 ps.length (ps.flatMap pcl)) ∧ Aside0 (Below w.heap.size w wx))
  case atStart => exact ⟨0, [], _, rfl, rfl, by omega, by omega, Nat.le_refl _, ⟨by rw [List.drop_zero]; cases partsS x.data.toList <;> rfl⟩, ⟨World.ownsRow_nil _ _ _ _⟩, HB⟩
  case round =>
    obtain ⟨i, ps, V, rfl, rfl, hk, hix, hpl, HP, HO, HB⟩ := hrel
    by_cases hlt : i < x.size
    · obtain ⟨q, rfl⟩ : ∃ q, gk = q + 1 := ⟨gk - 1, by omega⟩
      have di : decide ((i : Int) < (x.size : Int)) = true := decide_eq_true (by omega)
      have i0 : (0 ≤ (i : Int)) = True := eq_true (by omega)
      have i1 : ((i : Int) < (x.size : Int)) = True := eq_true (by omega)
      have hd : x.data.toList.drop i = x[i] :: x.data.toList.drop (i + 1) := by
        have h1 : i < x.data.toList.length := by rw [← sz]; exact hlt
        rw [List.drop_eq_getElem_cons h1]
        have := at_list x i hlt
        rw [List.getElem?_eq_getElem h1] at this
        rw [Option.some.inj this]
      have hil : i < x.data.toList.length := by rw [← sz]; exact hlt
      have wi : wrap64 ((i : Int) + 1) = ((i + 1 : Nat) : Int) := by simp only [wrap64]; omega
      have HL : Aside0 (ps.length + 1 ≤ maxLen ∧ (ps.length + 1) * 257 ≤ 140737488355328) := ⟨by unfold maxLen; omega, by omega⟩
      have HQ : Aside0 (Pw w V ps.length (ps.flatMap pcl) wr.heap.size false (fun _ => false) _) := ⟨Pw.first HO.out HB.out⟩
      have HS := Aside0.mk hs
      clear hs
      by_cases h42 : x[i] = 42
      · rw [h42] at hd
        have HQa := Aside0.mk (HQ.out.star true)
        replace HQ := Aside0.mk (Pw.made HO.out HB.out zero_star)
        have HN := Aside0.mk (And.intro hk (And.intro hlt hpl))
        clear hk hix hpl
        have HE : Aside0 (partsS x.data.toList = (partsS (x.data.toList.drop (i + 1))).map ((ps ++ [[42]]) ++ ·)) := ⟨parts_go hil HP.out (by rw [hd]; exact cut_one (by decide) (by decide))⟩
        have HF := Aside0.mk (flat_snoc ps [42] st_star (fun c _ => pc_star c))
        clear HP
        go_wp2_with (first
          | (refine wpList_load_row rfl 36 _ rfl _ rfl _ _ (0, 0) _ HQ.out.part Tryd.underlying36 rfl (info_cells _ _) ?_)
          | (refine wpList_buildOne rfl 24 36 _ 257 (pcells _ _) rfl 91 _ rfl _ rfl Tryd.underlying24 info_part infoP (by decide) (by decide) rfl (pcells_size _ _) rfl ?_)
          | (at_builtin; refine wpList_append_own _ rfl _ _ 24 rfl w.heap.size 36 ((Tryd.prog.info? 36).get (by kernel_rfl)) (.agg Tryd.zeroCells36) 257 257 Tryd.underlying24 (by kernel_rfl) (by kernel_rfl) (by kernel_rfl) (by kernel_rfl) zero_size (by decide) _ ps.length (ps.flatMap pcl) rfl (HQ.out.own.alloc _) ⟨_, 0, none⟩ 1 1 (pcells _ _).toList rfl (by rw [Array.length_toList, pcells_size]) (row_cells _ _ 36) (fun u hu => (Array.all_eq_true_iff_forall_mem.1 (pcells_one _ _)) u (by simpa using hu)) HL.out.1 HL.out.2 (HQ.out.bel.alloc HQ.out.bel.size _).size ?_; intro v5 w5 ho5 hg5 _)
          | (refine wpList_load_row rfl 36 _ rfl _ rfl _ _ (0, 0) _ HQa.out.part Tryd.underlying36 rfl (info_cells _ _) ?_)
          | (at_builtin; refine wpList_append_own _ rfl _ _ 24 rfl w.heap.size 36 ((Tryd.prog.info? 36).get (by kernel_rfl)) (.agg Tryd.zeroCells36) 257 257 Tryd.underlying24 (by kernel_rfl) (by kernel_rfl) (by kernel_rfl) (by kernel_rfl) zero_size (by decide) _ ps.length (ps.flatMap pcl) rfl (HQa.out.own.alloc _) ⟨_, 0, none⟩ 1 1 (pcells _ _).toList rfl (by rw [Array.length_toList, pcells_size]) (row_cells _ _ 36) (fun u hu => (Array.all_eq_true_iff_forall_mem.1 (pcells_one _ _)) u (by simpa using hu)) HL.out.1 HL.out.2 (HQa.out.bel.alloc HQa.out.bel.size _).size ?_; intro v5 w5 ho5 hg5 _))
        go_roundg q
        case measure => exact Nat.lt_succ_self _
        case rel =>
          obtain ⟨hk, hix, hpl⟩ := HN.out
          skip
          exact ⟨i + 1, ps ++ [[42]], _, rfl, by first | rfl | (rw [wi]; done), by omega, by omega, by rw [List.length_append, List.length_singleton]; omega, HE, ⟨by rw [List.length_append, HF.out]; exact ho5⟩, ⟨by first | exact below_grown (HQ.out.bel.alloc HQ.out.bel.size _) hg5 (fun k hk => (HQ.out.own.lt k hk).1) | exact below_grown (HQa.out.bel.alloc HQa.out.bel.size _) hg5 (fun k hk => (HQa.out.own.lt k hk).1)⟩⟩
      · have b42 : ((x[i].toNat : Int) == 42) = false := by rw [show (42 : Int) = ((42 : UInt8).toNat : Int) from rfl, byte_eq]; exact beq_eq_false_iff_ne.2 h42
        by_cases h63 : x[i] = 63
        · rw [h63] at hd
          go_wp2
          go_loopg [7] 256 (fun kq v7 ux => ∃ c : Nat, v7 = .int .i64 (c : Int) ∧ c ≤ 256 ∧ 256 ≤ c + kq ∧ Aside0 (Pw w V ps.length (ps.flatMap pcl) wr.heap.size false (fun j => decide (j < c)) ux))
          case atStart => exact ⟨0, rfl, by omega, by omega, ⟨HQ.out.congr fun c _ => by simp⟩⟩
          case round =>
            obtain ⟨c, rfl, hc2, hk2, HQ2⟩ := hrel
            by_cases hlt2 : c < 256
            · obtain ⟨q2, rfl⟩ : ∃ q2, gk = q2 + 1 := ⟨gk - 1, by omega⟩
              have dc : decide ((c : Int) < 256) = true := decide_eq_true (by omega)
              have c0 : (0 ≤ (c : Int)) = True := eq_true (by omega)
              have c1 : ((c : Int) < 256) = True := eq_true (by omega)
              have wc : wrap64 ((c : Int) + 1) = ((c + 1 : Nat) : Int) := by simp only [wrap64]; omega
              have kc := HQ2.out.cell c hlt2
              have kf := HQ2.out.free (1 + c)
              have HN := Aside0.mk (And.intro hk2 (And.intro hc2 hlt2))
              clear hk2 hc2 hlt2 hk hix hpl
              go_wp2
              go_roundg q2
              case measure => exact Nat.lt_succ_self _
              case rel =>
                obtain ⟨hk2, hc2, hlt2⟩ := HN.out
                exact ⟨c + 1, by first | rfl | (rw [wc]; done), hlt2, fwd256 hk2, ⟨(HQ2.out.put c hlt2 true).congr fun j hj => by
                  show (if j = c then true else decide (j < c)) = decide (j < c + 1)
                  by_cases e : j = c
                  · subst e; rw [if_pos rfl, decide_eq_true (Nat.lt_succ_self _)]
                  · rw [if_neg e]; exact decide_eq_decide.2 (lt_iff_of_ne e)⟩⟩
            · have dc : decide ((c : Int) < 256) = false := decide_eq_false (by omega)
              replace HQ : Aside0 (Pw w V ps.length (ps.flatMap pcl) _ false (fun _ => true) _) := ⟨HQ2.out.congr fun j hj => decide_eq_true (by omega)⟩
              have HN := Aside0.mk (And.intro hk (And.intro hlt hpl))
              clear HQ2 hk2 hc2 hk hix hpl
              have HE : Aside0 (partsS x.data.toList = (partsS (x.data.toList.drop (i + 1))).map ((ps ++ [[63]]) ++ ·)) := ⟨parts_go hil HP.out (by rw [hd]; exact cut_one (by decide) (by decide))⟩
              have HF := Aside0.mk (flat_snoc ps [63] st_any (fun c _ => pc_any c))
              clear HP
              go_wp2_with (first
                | (refine wpList_load_row rfl 36 _ rfl _ rfl _ _ (0, 0) _ HQ.out.part Tryd.underlying36 rfl (info_cells _ _) ?_)
                | (refine wpList_buildOne rfl 24 36 _ 257 (pcells _ _) rfl 91 _ rfl _ rfl Tryd.underlying24 info_part infoP (by decide) (by decide) rfl (pcells_size _ _) rfl ?_)
                | (at_builtin; refine wpList_append_own _ rfl _ _ 24 rfl w.heap.size 36 ((Tryd.prog.info? 36).get (by kernel_rfl)) (.agg Tryd.zeroCells36) 257 257 Tryd.underlying24 (by kernel_rfl) (by kernel_rfl) (by kernel_rfl) (by kernel_rfl) zero_size (by decide) _ ps.length (ps.flatMap pcl) rfl (HQ.out.own.alloc _) ⟨_, 0, none⟩ 1 1 (pcells _ _).toList rfl (by rw [Array.length_toList, pcells_size]) (row_cells _ _ 36) (fun u hu => (Array.all_eq_true_iff_forall_mem.1 (pcells_one _ _)) u (by simpa using hu)) HL.out.1 HL.out.2 (HQ.out.bel.alloc HQ.out.bel.size _).size ?_; intro v5 w5 ho5 hg5 _)
                | (refine wpList_load_row rfl 36 _ rfl _ rfl _ _ (0, 0) _ HQa.out.part Tryd.underlying36 rfl (info_cells _ _) ?_)
                | (at_builtin; refine wpList_append_own _ rfl _ _ 24 rfl w.heap.size 36 ((Tryd.prog.info? 36).get (by kernel_rfl)) (.agg Tryd.zeroCells36) 257 257 Tryd.underlying24 (by kernel_rfl) (by kernel_rfl) (by kernel_rfl) (by kernel_rfl) zero_size (by decide) _ ps.length (ps.flatMap pcl) rfl (HQa.out.own.alloc _) ⟨_, 0, none⟩ 1 1 (pcells _ _).toList rfl (by rw [Array.length_toList, pcells_size]) (row_cells _ _ 36) (fun u hu => (Array.all_eq_true_iff_forall_mem.1 (pcells_one _ _)) u (by simpa using hu)) HL.out.1 HL.out.2 (HQa.out.bel.alloc HQa.out.bel.size _).size ?_; intro v5 w5 ho5 hg5 _))
              go_roundg q
              case measure => exact Nat.lt_succ_self _
              case rel =>
                obtain ⟨hk, hix, hpl⟩ := HN.out
                skip
                exact ⟨i + 1, ps ++ [[63]], _, rfl, by first | rfl | (rw [wi]; done), by omega, by omega, by rw [List.length_append, List.length_singleton]; omega, HE, ⟨by rw [List.length_append, HF.out]; exact ho5⟩, ⟨by first | exact below_grown (HQ.out.bel.alloc HQ.out.bel.size _) hg5 (fun k hk => (HQ.out.own.lt k hk).1) | exact below_grown (HQa.out.bel.alloc HQa.out.bel.size _) hg5 (fun k hk => (HQa.out.own.lt k hk).1)⟩⟩
        · have b63 : ((x[i].toNat : Int) == 63) = false := by rw [show (63 : Int) = ((63 : UInt8).toNat : Int) from rfl, byte_eq]; exact beq_eq_false_iff_ne.2 h63
          by_cases h92 : x[i] = 92
          · rw [h92] at hd
            have HN := Aside0.mk (And.intro hk (And.intro hix hpl))
            obtain ⟨f, hf⟩ : ∃ f, f = i + 1 := ⟨_, rfl⟩
            rw [← hf] at wi hd
            by_cases hl2 : f < x.size
            · have e1 : ((f : Int) == (x.size : Int)) = false := beq_eq_false_iff_ne.2 (by omega)
              have f0 : (0 ≤ (f : Int)) = True := eq_true (by omega)
              have f1 : ((f : Int) < (x.size : Int)) = True := eq_true (by omega)
              have wf : wrap64 ((f : Int) + 1) = ((f + 1 : Nat) : Int) := by have := HS.out; simp only [wrap64]; omega
              have hfl : f < x.data.toList.length := by rw [← sz]; exact hl2
              have hd2 : x.data.toList.drop f = x[f] :: x.data.toList.drop (f + 1) := by
                rw [List.drop_eq_getElem_cons hfl]
                have := at_list x f hl2
                rw [List.getElem?_eq_getElem hfl] at this
                rw [Option.some.inj this]
              have c256 : x[f].toNat < 256 := x[f].toNat_lt
              have c0 : (0 ≤ (x[f].toNat : Int)) = True := eq_true (by omega)
              have c1 : ((x[f].toNat : Int) < 256) = True := eq_true (by omega)
              have kz : Tryd.zeroCells36[1 + x[f].toNat]? = some (.bool false) := by rw [zeroPart]; exact pcells_at _ _ _ c256
              have HI := Aside0.mk hf
              clear hf
              have HQa := Aside0.mk ((HQ.out.put x[f].toNat c256 true).congr (g' := fun j => decide (j = x[f].toNat)) fun j _ => put_at j _); replace HQ := Aside0.mk (Pw.made HO.out HB.out (zero_at x[f].toNat c256))
              clear hk hix hpl c256
              have HE : Aside0 (partsS x.data.toList = (partsS (x.data.toList.drop (f + 1))).map ((ps ++ [[92, x[f]]]) ++ ·)) := ⟨parts_go hil HP.out (by rw [hd, hd2]; exact cut_two _ _)⟩
              have HF := Aside0.mk (flat_snoc ps [92, x[f]] (st_two _) (fun c hc => pc_two _ c hc))
              clear HP
              go_wp2_with (first
                | (refine wpList_load_row rfl 36 _ rfl _ rfl _ _ (0, 0) _ HQ.out.part Tryd.underlying36 rfl (info_cells _ _) ?_)
                | (refine wpList_buildOne rfl 24 36 _ 257 (pcells _ _) rfl 91 _ rfl _ rfl Tryd.underlying24 info_part infoP (by decide) (by decide) rfl (pcells_size _ _) rfl ?_)
                | (at_builtin; refine wpList_append_own _ rfl _ _ 24 rfl w.heap.size 36 ((Tryd.prog.info? 36).get (by kernel_rfl)) (.agg Tryd.zeroCells36) 257 257 Tryd.underlying24 (by kernel_rfl) (by kernel_rfl) (by kernel_rfl) (by kernel_rfl) zero_size (by decide) _ ps.length (ps.flatMap pcl) rfl (HQ.out.own.alloc _) ⟨_, 0, none⟩ 1 1 (pcells _ _).toList rfl (by rw [Array.length_toList, pcells_size]) (row_cells _ _ 36) (fun u hu => (Array.all_eq_true_iff_forall_mem.1 (pcells_one _ _)) u (by simpa using hu)) HL.out.1 HL.out.2 (HQ.out.bel.alloc HQ.out.bel.size _).size ?_; intro v5 w5 ho5 hg5 _)
                | (refine wpList_load_row rfl 36 _ rfl _ rfl _ _ (0, 0) _ HQa.out.part Tryd.underlying36 rfl (info_cells _ _) ?_)
                | (at_builtin; refine wpList_append_own _ rfl _ _ 24 rfl w.heap.size 36 ((Tryd.prog.info? 36).get (by kernel_rfl)) (.agg Tryd.zeroCells36) 257 257 Tryd.underlying24 (by kernel_rfl) (by kernel_rfl) (by kernel_rfl) (by kernel_rfl) zero_size (by decide) _ ps.length (ps.flatMap pcl) rfl (HQa.out.own.alloc _) ⟨_, 0, none⟩ 1 1 (pcells _ _).toList rfl (by rw [Array.length_toList, pcells_size]) (row_cells _ _ 36) (fun u hu => (Array.all_eq_true_iff_forall_mem.1 (pcells_one _ _)) u (by simpa using hu)) HL.out.1 HL.out.2 (HQa.out.bel.alloc HQa.out.bel.size _).size ?_; intro v5 w5 ho5 hg5 _))
              go_roundg q
              case measure => exact Nat.lt_succ_self _
              case rel =>
                obtain ⟨hk, hix, hpl⟩ := HN.out
                have hfi := HI.out
                exact ⟨f + 1, ps ++ [[92, x[f]]], _, rfl, by first | rfl | (rw [wf]; done), by omega, by omega, by rw [List.length_append, List.length_singleton]; omega, HE, ⟨by rw [List.length_append, HF.out]; exact ho5⟩, ⟨by first | exact below_grown (HQ.out.bel.alloc HQ.out.bel.size _) hg5 (fun k hk => (HQ.out.own.lt k hk).1) | exact below_grown (HQa.out.bel.alloc HQa.out.bel.size _) hg5 (fun k hk => (HQa.out.own.lt k hk).1)⟩⟩
            · have hf2 : f = x.size := by omega
              have e1 : ((f : Int) == (x.size : Int)) = true := by rw [hf2]; exact beq_self_eq_true _
              have HE : Aside0 (partsS x.data.toList = none) := ⟨parts_no hil HP.out (by rw [hd, List.drop_eq_nil_of_le (by rw [← sz]; omega)]; exact cut_two0)⟩
              clear HP hk hix hpl hf hf2
              go_wp2
              go_ret2
              exact ⟨by rw [HE.out]; rfl, HQ.out.bel⟩
          · have b92 : ((x[i].toNat : Int) == 92) = false := by rw [show (92 : Int) = ((92 : UInt8).toNat : Int) from rfl, byte_eq]; exact beq_eq_false_iff_ne.2 h92
            by_cases h91 : x[i] = 91
            · rw [h91] at hd
              have HN := Aside0.mk (And.intro hk (And.intro hix hpl))
              obtain ⟨f, hf⟩ : ∃ f, f = i + 1 := ⟨_, rfl⟩
              rw [← hf] at wi hd
              clear hk hix hpl
              by_cases hl2 : f < x.size
              · have df : decide ((f : Int) < (x.size : Int)) = true := decide_eq_true (by omega)
                have f0 : (0 ≤ (f : Int)) = True := eq_true (by omega)
                have f1 : ((f : Int) < (x.size : Int)) = True := eq_true (by omega)
                have wf : wrap64 ((f : Int) + 1) = ((f + 1 : Nat) : Int) := by have := HS.out; simp only [wrap64]; omega
                have wf2 : wrap64 ((f : Int) + 1 + 1) = ((f + 2 : Nat) : Int) := by have := HS.out; simp only [wrap64]; omega
                have hh : (x.data.toList.drop f).head? = some x[f] := by rw [List.head?_drop]; exact at_list x f hl2
                by_cases h33 : x[f] = 33
                · have HK : Aside0 (skip (x.data.toList.drop f) = 3) := ⟨by unfold skip; rw [hh, h33]; rfl⟩
                  clear hh
                  have HI := Aside0.mk hf
                  clear hf
                  go_wp2
                  go_loopg [9] x.size (fun kq v9 ux => ∃ e : Nat, v9 = .int .i64 (e : Int) ∧ x.size ≤ e + kq ∧ e ≤ x.size + 1 ∧ Aside0 (i + skip (x.data.toList.drop f) ≤ e ∧ ∀ j, i + skip (x.data.toList.drop f) ≤ j → j < e → x.data.toList[j]? ≠ some 93) ∧ Aside0 (Pw w V ps.length (ps.flatMap pcl) wr.heap.size false (fun _ => false) ux))
                  case atStart =>
                    have hf := HI.out
                    exact ⟨f + 2, by first | rfl | (rw [wf2]; done), by omega, by omega, ⟨by rw [HK.out]; exact ⟨by omega, fun j h1 h2 => by omega⟩⟩, HQ⟩
                  case round =>
                    obtain ⟨e, rfl, hk2, he2, HJ, HQ2⟩ := hrel
                    have hf := HI.out
                    by_cases hle : e < x.size
                    · have de : decide ((e : Int) < (x.size : Int)) = true := decide_eq_true (by omega)
                      have e0 : (0 ≤ (e : Int)) = True := eq_true (by omega)
                      have e1 : ((e : Int) < (x.size : Int)) = True := eq_true (by omega)
                      have we : wrap64 ((e : Int) + 1) = ((e + 1 : Nat) : Int) := by have := HS.out; simp only [wrap64]; omega
                      have hat := at_list x e hle
                      by_cases h93 : x[e] = 93
                      · have ge : decide ((e : Int) ≥ (x.size : Int)) = false := decide_eq_false (by omega)
                        have hie : i < e ∧ f ≤ e := by have := HJ.out.1; have := HK.out; omega
                        have hfe := hie.2
                        have g1 : ((f : Int) ≤ (e : Int)) = True := eq_true (by omega)
                        have g2 : ((e : Int) ≤ (x.size : Int)) = True := eq_true (by omega)
                        have g3 : ((0 : Int) ≤ (f : Int)) = True := eq_true (by omega)
                        have hel : e < x.data.toList.length := by rw [← sz]; exact hle
                        have hu := set_text hd hie.1 hel
                        have hcut := cut_end hd HJ.out.1 (by rw [hat, h93]) HJ.out.2
                        obtain ⟨u, hu1, hu2⟩ := hu
                        rw [hu1] at hcut
                        obtain ⟨G, hG⟩ : ∃ G : Nat → Bool, G = fun c => setB (x.extract f e).data.toList c.toUInt8 := ⟨_, rfl⟩
                        have CS : ∀ W : World, Aside0 (Calls Tryd.prog 14 #[.string (x.extract f e)] W fun e w' => e = .returned (.agg (pcells false G)) ∧ Below W.heap.size W w') := fun W => ⟨by rw [hG]; exact set_calls (x.extract f e) (by have := HS.out; rw [ByteArray.size_extract]; omega) W⟩
                        have HX := Aside0.mk (And.intro hu2 (And.intro hcut (And.intro (ext_list x f e) hG)))
                        have HN := Aside0.mk (And.intro HN.out (And.intro hle hfe))
                        clear hu1 hu2 hcut hat hk2 he2 hfe hie hd hf hG
                        clear HQ
                        have HE : Aside0 (partsS x.data.toList = (partsS (x.data.toList.drop (e + 1))).map ((ps ++ [(91 :: u)]) ++ ·)) := ⟨parts_go hil HP.out HX.out.2.1⟩
                        have HF := Aside0.mk (flat_snoc ps (91 :: u) st_set (fun c hc => by show _ = G c; rw [HX.out.2.2.2]; show pc _ _ = setB (x.extract f e).data.toList c.toUInt8; rw [pc_set, HX.out.1, HX.out.2.2.1, HI.out]))
                        clear HP
                        go_wp2_with (first
                          | (go_at_call 14; (with_reducible refine (CS _).out.mono ?_); rintro e2 w2 ⟨rfl, hb⟩; have HQ := Aside0.mk (HQ2.out.below hb))
                          | (refine wpList_store_row rfl 36 _ _ rfl _ _ rfl rfl _ _ HQ.out.part (info_cells _ _) (by rw [pcells_size, pcells_size]) (pcells_one _ _) ?_; have HQa := Aside0.mk (HQ.out.row false G))
                          | (refine wpList_load_row rfl 36 _ rfl _ rfl _ _ (0, 0) _ HQ.out.part Tryd.underlying36 rfl (info_cells _ _) ?_)
                          | (refine wpList_buildOne rfl 24 36 _ 257 (pcells _ _) rfl 91 _ rfl _ rfl Tryd.underlying24 info_part infoP (by decide) (by decide) rfl (pcells_size _ _) rfl ?_)
                          | (at_builtin; refine wpList_append_own _ rfl _ _ 24 rfl w.heap.size 36 ((Tryd.prog.info? 36).get (by kernel_rfl)) (.agg Tryd.zeroCells36) 257 257 Tryd.underlying24 (by kernel_rfl) (by kernel_rfl) (by kernel_rfl) (by kernel_rfl) zero_size (by decide) _ ps.length (ps.flatMap pcl) rfl (HQ.out.own.alloc _) ⟨_, 0, none⟩ 1 1 (pcells _ _).toList rfl (by rw [Array.length_toList, pcells_size]) (row_cells _ _ 36) (fun u hu => (Array.all_eq_true_iff_forall_mem.1 (pcells_one _ _)) u (by simpa using hu)) HL.out.1 HL.out.2 (HQ.out.bel.alloc HQ.out.bel.size _).size ?_; intro v5 w5 ho5 hg5 _)
                          | (refine wpList_load_row rfl 36 _ rfl _ rfl _ _ (0, 0) _ HQa.out.part Tryd.underlying36 rfl (info_cells _ _) ?_)
                          | (at_builtin; refine wpList_append_own _ rfl _ _ 24 rfl w.heap.size 36 ((Tryd.prog.info? 36).get (by kernel_rfl)) (.agg Tryd.zeroCells36) 257 257 Tryd.underlying24 (by kernel_rfl) (by kernel_rfl) (by kernel_rfl) (by kernel_rfl) zero_size (by decide) _ ps.length (ps.flatMap pcl) rfl (HQa.out.own.alloc _) ⟨_, 0, none⟩ 1 1 (pcells _ _).toList rfl (by rw [Array.length_toList, pcells_size]) (row_cells _ _ 36) (fun u hu => (Array.all_eq_true_iff_forall_mem.1 (pcells_one _ _)) u (by simpa using hu)) HL.out.1 HL.out.2 (HQa.out.bel.alloc HQa.out.bel.size _).size ?_; intro v5 w5 ho5 hg5 _))
                        go_roundg q
                        case measure => exact Nat.lt_succ_self _
                        case rel =>
                          obtain ⟨⟨hk, hix, hpl⟩, hle, hfe⟩ := HN.out
                          have hfi := HI.out
                          exact ⟨e + 1, ps ++ [(91 :: u)], _, rfl, by first | rfl | (rw [we]; done), by omega, by omega, by rw [List.length_append, List.length_singleton]; omega, HE, ⟨by rw [List.length_append, HF.out]; exact ho5⟩, ⟨by first | exact below_grown (HQ.out.bel.alloc HQ.out.bel.size _) hg5 (fun k hk => (HQ.out.own.lt k hk).1) | exact below_grown (HQa.out.bel.alloc HQa.out.bel.size _) hg5 (fun k hk => (HQa.out.own.lt k hk).1)⟩⟩
                      · have b93 : ((x[e].toNat : Int) == 93) = false := by rw [show (93 : Int) = ((93 : UInt8).toNat : Int) from rfl, byte_eq]; exact beq_eq_false_iff_ne.2 h93
                        obtain ⟨q2, rfl⟩ : ∃ q2, gk = q2 + 1 := ⟨gk - 1, by omega⟩
                        have HM := Aside0.mk (And.intro hk2 hle)
                        have HE : Aside0 (i + skip (x.data.toList.drop f) ≤ e + 1 ∧ ∀ j, i + skip (x.data.toList.drop f) ≤ j → j < e + 1 → x.data.toList[j]? ≠ some 93) := ⟨Nat.le_succ_of_le HJ.out.1, fun j h1 h2 => by
                          rcases Nat.lt_succ_iff_lt_or_eq.1 h2 with h3 | h3
                          · exact HJ.out.2 j h1 h3
                          · subst h3; rw [hat]; exact fun h => h93 (Option.some.inj h)⟩
                        clear hk2 he2 hat hf
                        go_wp2
                        go_roundg q2
                        case measure => exact Nat.lt_succ_self _
                        case rel => exact ⟨e + 1, by first | rfl | (rw [we]; done), by have := HM.out; omega, by have := HM.out; omega, HE, HQ2⟩
                    · have de : decide ((e : Int) < (x.size : Int)) = false := decide_eq_false (by omega)
                      have ge : decide ((e : Int) ≥ (x.size : Int)) = true := decide_eq_true (by omega)
                      have HE : Aside0 (partsS x.data.toList = none) := ⟨parts_no hil HP.out (cut_none hd fun j hj => by
                        by_cases h1 : j < e
                        · exact HJ.out.2 j hj h1
                        · rw [List.getElem?_eq_none (by rw [← sz]; omega)]; exact fun h => nomatch h)⟩
                      clear HP hk2 he2 hd hf
                      go_wp2
                      go_ret2
                      exact ⟨by rw [HE.out]; rfl, HQ2.out.bel⟩
                · have HK : Aside0 (skip (x.data.toList.drop f) = 2) := ⟨by unfold skip; rw [hh, if_neg (fun h => h33 (Option.some.inj h))]⟩
                  have b33 : ((x[f].toNat : Int) == 33) = false := by rw [show (33 : Int) = ((33 : UInt8).toNat : Int) from rfl, byte_eq]; exact beq_eq_false_iff_ne.2 h33
                  clear hh
                  have HI := Aside0.mk hf
                  clear hf
                  go_wp2
                  go_loopg [9] x.size (fun kq v9 ux => ∃ e : Nat, v9 = .int .i64 (e : Int) ∧ x.size ≤ e + kq ∧ e ≤ x.size + 1 ∧ Aside0 (i + skip (x.data.toList.drop f) ≤ e ∧ ∀ j, i + skip (x.data.toList.drop f) ≤ j → j < e → x.data.toList[j]? ≠ some 93) ∧ Aside0 (Pw w V ps.length (ps.flatMap pcl) wr.heap.size false (fun _ => false) ux))
                  case atStart =>
                    have hf := HI.out
                    exact ⟨f + 1, by first | rfl | (rw [wf]; done), by omega, by omega, ⟨by rw [HK.out]; exact ⟨by omega, fun j h1 h2 => by omega⟩⟩, HQ⟩
                  case round =>
                    obtain ⟨e, rfl, hk2, he2, HJ, HQ2⟩ := hrel
                    have hf := HI.out
                    by_cases hle : e < x.size
                    · have de : decide ((e : Int) < (x.size : Int)) = true := decide_eq_true (by omega)
                      have e0 : (0 ≤ (e : Int)) = True := eq_true (by omega)
                      have e1 : ((e : Int) < (x.size : Int)) = True := eq_true (by omega)
                      have we : wrap64 ((e : Int) + 1) = ((e + 1 : Nat) : Int) := by have := HS.out; simp only [wrap64]; omega
                      have hat := at_list x e hle
                      by_cases h93 : x[e] = 93
                      · have ge : decide ((e : Int) ≥ (x.size : Int)) = false := decide_eq_false (by omega)
                        have hie : i < e ∧ f ≤ e := by have := HJ.out.1; have := HK.out; omega
                        have hfe := hie.2
                        have g1 : ((f : Int) ≤ (e : Int)) = True := eq_true (by omega)
                        have g2 : ((e : Int) ≤ (x.size : Int)) = True := eq_true (by omega)
                        have g3 : ((0 : Int) ≤ (f : Int)) = True := eq_true (by omega)
                        have hel : e < x.data.toList.length := by rw [← sz]; exact hle
                        have hu := set_text hd hie.1 hel
                        have hcut := cut_end hd HJ.out.1 (by rw [hat, h93]) HJ.out.2
                        obtain ⟨u, hu1, hu2⟩ := hu
                        rw [hu1] at hcut
                        obtain ⟨G, hG⟩ : ∃ G : Nat → Bool, G = fun c => setB (x.extract f e).data.toList c.toUInt8 := ⟨_, rfl⟩
                        have CS : ∀ W : World, Aside0 (Calls Tryd.prog 14 #[.string (x.extract f e)] W fun e w' => e = .returned (.agg (pcells false G)) ∧ Below W.heap.size W w') := fun W => ⟨by rw [hG]; exact set_calls (x.extract f e) (by have := HS.out; rw [ByteArray.size_extract]; omega) W⟩
                        have HX := Aside0.mk (And.intro hu2 (And.intro hcut (And.intro (ext_list x f e) hG)))
                        have HN := Aside0.mk (And.intro HN.out (And.intro hle hfe))
                        clear hu1 hu2 hcut hat hk2 he2 hfe hie hd hf hG
                        clear HQ
                        have HE : Aside0 (partsS x.data.toList = (partsS (x.data.toList.drop (e + 1))).map ((ps ++ [(91 :: u)]) ++ ·)) := ⟨parts_go hil HP.out HX.out.2.1⟩
                        have HF := Aside0.mk (flat_snoc ps (91 :: u) st_set (fun c hc => by show _ = G c; rw [HX.out.2.2.2]; show pc _ _ = setB (x.extract f e).data.toList c.toUInt8; rw [pc_set, HX.out.1, HX.out.2.2.1, HI.out]))
                        clear HP
                        go_wp2_with (first
                          | (go_at_call 14; (with_reducible refine (CS _).out.mono ?_); rintro e2 w2 ⟨rfl, hb⟩; have HQ := Aside0.mk (HQ2.out.below hb))
                          | (refine wpList_store_row rfl 36 _ _ rfl _ _ rfl rfl _ _ HQ.out.part (info_cells _ _) (by rw [pcells_size, pcells_size]) (pcells_one _ _) ?_; have HQa := Aside0.mk (HQ.out.row false G))
                          | (refine wpList_load_row rfl 36 _ rfl _ rfl _ _ (0, 0) _ HQ.out.part Tryd.underlying36 rfl (info_cells _ _) ?_)
                          | (refine wpList_buildOne rfl 24 36 _ 257 (pcells _ _) rfl 91 _ rfl _ rfl Tryd.underlying24 info_part infoP (by decide) (by decide) rfl (pcells_size _ _) rfl ?_)
                          | (at_builtin; refine wpList_append_own _ rfl _ _ 24 rfl w.heap.size 36 ((Tryd.prog.info? 36).get (by kernel_rfl)) (.agg Tryd.zeroCells36) 257 257 Tryd.underlying24 (by kernel_rfl) (by kernel_rfl) (by kernel_rfl) (by kernel_rfl) zero_size (by decide) _ ps.length (ps.flatMap pcl) rfl (HQ.out.own.alloc _) ⟨_, 0, none⟩ 1 1 (pcells _ _).toList rfl (by rw [Array.length_toList, pcells_size]) (row_cells _ _ 36) (fun u hu => (Array.all_eq_true_iff_forall_mem.1 (pcells_one _ _)) u (by simpa using hu)) HL.out.1 HL.out.2 (HQ.out.bel.alloc HQ.out.bel.size _).size ?_; intro v5 w5 ho5 hg5 _)
                          | (refine wpList_load_row rfl 36 _ rfl _ rfl _ _ (0, 0) _ HQa.out.part Tryd.underlying36 rfl (info_cells _ _) ?_)
                          | (at_builtin; refine wpList_append_own _ rfl _ _ 24 rfl w.heap.size 36 ((Tryd.prog.info? 36).get (by kernel_rfl)) (.agg Tryd.zeroCells36) 257 257 Tryd.underlying24 (by kernel_rfl) (by kernel_rfl) (by kernel_rfl) (by kernel_rfl) zero_size (by decide) _ ps.length (ps.flatMap pcl) rfl (HQa.out.own.alloc _) ⟨_, 0, none⟩ 1 1 (pcells _ _).toList rfl (by rw [Array.length_toList, pcells_size]) (row_cells _ _ 36) (fun u hu => (Array.all_eq_true_iff_forall_mem.1 (pcells_one _ _)) u (by simpa using hu)) HL.out.1 HL.out.2 (HQa.out.bel.alloc HQa.out.bel.size _).size ?_; intro v5 w5 ho5 hg5 _))
                        go_roundg q
                        case measure => exact Nat.lt_succ_self _
                        case rel =>
                          obtain ⟨⟨hk, hix, hpl⟩, hle, hfe⟩ := HN.out
                          have hfi := HI.out
                          exact ⟨e + 1, ps ++ [(91 :: u)], _, rfl, by first | rfl | (rw [we]; done), by omega, by omega, by rw [List.length_append, List.length_singleton]; omega, HE, ⟨by rw [List.length_append, HF.out]; exact ho5⟩, ⟨by first | exact below_grown (HQ.out.bel.alloc HQ.out.bel.size _) hg5 (fun k hk => (HQ.out.own.lt k hk).1) | exact below_grown (HQa.out.bel.alloc HQa.out.bel.size _) hg5 (fun k hk => (HQa.out.own.lt k hk).1)⟩⟩
                      · have b93 : ((x[e].toNat : Int) == 93) = false := by rw [show (93 : Int) = ((93 : UInt8).toNat : Int) from rfl, byte_eq]; exact beq_eq_false_iff_ne.2 h93
                        obtain ⟨q2, rfl⟩ : ∃ q2, gk = q2 + 1 := ⟨gk - 1, by omega⟩
                        have HM := Aside0.mk (And.intro hk2 hle)
                        have HE : Aside0 (i + skip (x.data.toList.drop f) ≤ e + 1 ∧ ∀ j, i + skip (x.data.toList.drop f) ≤ j → j < e + 1 → x.data.toList[j]? ≠ some 93) := ⟨Nat.le_succ_of_le HJ.out.1, fun j h1 h2 => by
                          rcases Nat.lt_succ_iff_lt_or_eq.1 h2 with h3 | h3
                          · exact HJ.out.2 j h1 h3
                          · subst h3; rw [hat]; exact fun h => h93 (Option.some.inj h)⟩
                        clear hk2 he2 hat hf
                        go_wp2
                        go_roundg q2
                        case measure => exact Nat.lt_succ_self _
                        case rel => exact ⟨e + 1, by first | rfl | (rw [we]; done), by have := HM.out; omega, by have := HM.out; omega, HE, HQ2⟩
                    · have de : decide ((e : Int) < (x.size : Int)) = false := decide_eq_false (by omega)
                      have ge : decide ((e : Int) ≥ (x.size : Int)) = true := decide_eq_true (by omega)
                      have HE : Aside0 (partsS x.data.toList = none) := ⟨parts_no hil HP.out (cut_none hd fun j hj => by
                        by_cases h1 : j < e
                        · exact HJ.out.2 j hj h1
                        · rw [List.getElem?_eq_none (by rw [← sz]; omega)]; exact fun h => nomatch h)⟩
                      clear HP hk2 he2 hd hf
                      go_wp2
                      go_ret2
                      exact ⟨by rw [HE.out]; rfl, HQ2.out.bel⟩
              · have df : decide ((f : Int) < (x.size : Int)) = false := decide_eq_false (by omega)
                have wf : wrap64 ((f : Int) + 1) = ((f + 1 : Nat) : Int) := by have := HS.out; simp only [wrap64]; omega
                have HK : Aside0 (skip (x.data.toList.drop f) = 2) := ⟨by rw [List.drop_eq_nil_of_le (by rw [← sz]; omega)]; rfl⟩
                have HI := Aside0.mk hf
                clear hf
                go_wp2
                go_loopg [9] x.size (fun kq v9 ux => ∃ e : Nat, v9 = .int .i64 (e : Int) ∧ x.size ≤ e + kq ∧ e ≤ x.size + 1 ∧ Aside0 (i + skip (x.data.toList.drop f) ≤ e ∧ ∀ j, i + skip (x.data.toList.drop f) ≤ j → j < e → x.data.toList[j]? ≠ some 93) ∧ Aside0 (Pw w V ps.length (ps.flatMap pcl) wr.heap.size false (fun _ => false) ux))
                case atStart =>
                  have hf := HI.out
                  exact ⟨f + 1, by first | rfl | (rw [wf]; done), by omega, by omega, ⟨by rw [HK.out]; exact ⟨by omega, fun j h1 h2 => by omega⟩⟩, HQ⟩
                case round =>
                  obtain ⟨e, rfl, hk2, he2, HJ, HQ2⟩ := hrel
                  have hf := HI.out
                  by_cases hle : e < x.size
                  · exact absurd hle (by have := HJ.out.1; have := HK.out; omega)
                  · have de : decide ((e : Int) < (x.size : Int)) = false := decide_eq_false (by omega)
                    have ge : decide ((e : Int) ≥ (x.size : Int)) = true := decide_eq_true (by omega)
                    have HE : Aside0 (partsS x.data.toList = none) := ⟨parts_no hil HP.out (cut_none hd fun j hj => by
                      by_cases h1 : j < e
                      · exact HJ.out.2 j hj h1
                      · rw [List.getElem?_eq_none (by rw [← sz]; omega)]; exact fun h => nomatch h)⟩
                    clear HP hk2 he2 hd hf
                    go_wp2
                    go_ret2
                    exact ⟨by rw [HE.out]; rfl, HQ2.out.bel⟩
            · have b91 : ((x[i].toNat : Int) == 91) = false := by rw [show (91 : Int) = ((91 : UInt8).toNat : Int) from rfl, byte_eq]; exact beq_eq_false_iff_ne.2 h91
              have c256 : x[i].toNat < 256 := x[i].toNat_lt
              have c0 : (0 ≤ (x[i].toNat : Int)) = True := eq_true (by omega)
              have c1 : ((x[i].toNat : Int) < 256) = True := eq_true (by omega)
              have kz : Tryd.zeroCells36[1 + x[i].toNat]? = some (.bool false) := by rw [zeroPart]; exact pcells_at _ _ _ c256
              have HQa := Aside0.mk ((HQ.out.put x[i].toNat c256 true).congr (g' := fun j => decide (j = x[i].toNat)) fun j _ => put_at j _); replace HQ := Aside0.mk (Pw.made HO.out HB.out (zero_at x[i].toNat c256))
              have HX := Aside0.mk (And.intro h42 (And.intro h63 (And.intro h92 h91)))
              have HN := Aside0.mk (And.intro hk (And.intro hlt hpl))
              clear hk hix hpl c256 h42 h63 h92 h91
              have HE : Aside0 (partsS x.data.toList = (partsS (x.data.toList.drop (i + 1))).map ((ps ++ [[x[i]]]) ++ ·)) := ⟨parts_go hil HP.out (by rw [hd]; exact cut_one HX.out.2.2.1 HX.out.2.2.2)⟩
              have HF := Aside0.mk (flat_snoc ps [x[i]] (st_one HX.out.1) (fun c hc => pc_one HX.out.1 HX.out.2.1 HX.out.2.2.2 c hc))
              clear HP
              go_wp2_with (first
                | (refine wpList_load_row rfl 36 _ rfl _ rfl _ _ (0, 0) _ HQ.out.part Tryd.underlying36 rfl (info_cells _ _) ?_)
                | (refine wpList_buildOne rfl 24 36 _ 257 (pcells _ _) rfl 91 _ rfl _ rfl Tryd.underlying24 info_part infoP (by decide) (by decide) rfl (pcells_size _ _) rfl ?_)
                | (at_builtin; refine wpList_append_own _ rfl _ _ 24 rfl w.heap.size 36 ((Tryd.prog.info? 36).get (by kernel_rfl)) (.agg Tryd.zeroCells36) 257 257 Tryd.underlying24 (by kernel_rfl) (by kernel_rfl) (by kernel_rfl) (by kernel_rfl) zero_size (by decide) _ ps.length (ps.flatMap pcl) rfl (HQ.out.own.alloc _) ⟨_, 0, none⟩ 1 1 (pcells _ _).toList rfl (by rw [Array.length_toList, pcells_size]) (row_cells _ _ 36) (fun u hu => (Array.all_eq_true_iff_forall_mem.1 (pcells_one _ _)) u (by simpa using hu)) HL.out.1 HL.out.2 (HQ.out.bel.alloc HQ.out.bel.size _).size ?_; intro v5 w5 ho5 hg5 _)
                | (refine wpList_load_row rfl 36 _ rfl _ rfl _ _ (0, 0) _ HQa.out.part Tryd.underlying36 rfl (info_cells _ _) ?_)
                | (at_builtin; refine wpList_append_own _ rfl _ _ 24 rfl w.heap.size 36 ((Tryd.prog.info? 36).get (by kernel_rfl)) (.agg Tryd.zeroCells36) 257 257 Tryd.underlying24 (by kernel_rfl) (by kernel_rfl) (by kernel_rfl) (by kernel_rfl) zero_size (by decide) _ ps.length (ps.flatMap pcl) rfl (HQa.out.own.alloc _) ⟨_, 0, none⟩ 1 1 (pcells _ _).toList rfl (by rw [Array.length_toList, pcells_size]) (row_cells _ _ 36) (fun u hu => (Array.all_eq_true_iff_forall_mem.1 (pcells_one _ _)) u (by simpa using hu)) HL.out.1 HL.out.2 (HQa.out.bel.alloc HQa.out.bel.size _).size ?_; intro v5 w5 ho5 hg5 _))
              go_roundg q
              case measure => exact Nat.lt_succ_self _
              case rel =>
                obtain ⟨hk, hix, hpl⟩ := HN.out
                skip
                exact ⟨i + 1, ps ++ [[x[i]]], _, rfl, by first | rfl | (rw [wi]; done), by omega, by omega, by rw [List.length_append, List.length_singleton]; omega, HE, ⟨by rw [List.length_append, HF.out]; exact ho5⟩, ⟨by first | exact below_grown (HQ.out.bel.alloc HQ.out.bel.size _) hg5 (fun k hk => (HQ.out.own.lt k hk).1) | exact below_grown (HQa.out.bel.alloc HQa.out.bel.size _) hg5 (fun k hk => (HQa.out.own.lt k hk).1)⟩⟩
    · have di : decide ((i : Int) < (x.size : Int)) = false := decide_eq_false (by omega)
      have HE : Aside0 (partsS x.data.toList = some ps) := ⟨by rw [HP.out, List.drop_eq_nil_of_le (by rw [← sz]; omega), partsS_nil]; simp⟩
      clear HP hk hix hpl
      go_wp2
      go_ret2
      exact ⟨by rw [HE.out]; exact ⟨_, rfl, HO.out⟩, HB.out⟩
end Go.Proofs.YtefomcoimbnalaaDoor.Gw
