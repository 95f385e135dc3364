/- What ref28.Match does at any pattern and name: what Gl says. Conditions: as the theorems state them. -/
import Derived.Test.YtefomcoimbnalaaDoorGlN
namespace Go.Proofs.YtefomcoimbnalaaDoor.Gw
open Go Go.RowKit Go.Gl Go.Proofs.YtefomcoimbnalaaDoor.Plain
set_option maxRecDepth 100000
set_option maxHeartbeats 16000000
theorem rmatch_calls (x n : ByteArray) (hs : x.size ≤ 1000) (hn : n.size ≤ 1000) (w : World) : Calls Tryd.prog 11 #[.string x, .string n] w fun e w' => e = .returned (.bool (globS x.data.toList n.data.toList)) ∧ Below w.heap.size w w' := by
  have C := Aside0.mk (rparts2_calls x hs w)
  have hl : x.data.toList.length ≤ 1000 := by rw [← sz]; exact hs
  unfold globS
  cases hp : partsS x.data.toList with
  | none =>
    rw [hp] at C
    go_enter Tryd.func11, Tryd.ntmps11
    go_wp2_with (go_at_call 8; (with_reducible refine C.out.mono ?_); rintro e w1 ⟨hq, hb⟩; obtain rfl := hq)
    go_ret
    exact ⟨rfl, hb⟩
  | some l =>
    have hll := parts_len _ _ (Nat.le_refl _) l hp
    have HLL : Aside0 (l.length ≤ 1000) := ⟨by omega⟩
    rw [hp] at C
    have hnl : n.data.toList.length = n.size := (sz n).symm
    generalize hR : T (M stS onS l n.data.toList) = R
    have HR := Aside0.mk hR
    have HN := Aside0.mk hn
    have HNL := Aside0.mk hnl
    have wn : wrap64 ((n.size : Int) + 1) = (n.size : Int) + 1 := by simp only [wrap64]; omega
    have kz : (bcells n.size fun _ => false)[0]? = some (.bool false) := bcells_at _ _ 0 (Nat.zero_le _)
    clear hl hll hs hn hp hR hnl
    go_enter Tryd.func11, Tryd.ntmps11
    go_wp2_with (first
      | (go_at_call 8; (with_reducible refine C.out.mono ?_); rintro e w1 ⟨hq, hb⟩; obtain ⟨A, cap, rfl, hpr⟩ := hq; have HPR := Aside0.mk hpr; have HB1 := Aside0.mk hb; clear hpr hb)
      | (refine wpList_makeB rfl _ _ rfl n.size HN.out (by first | rfl | exact congrArg (Value.int .i64) wn) (by first | rfl | exact congrArg (Value.int .i64) wn) ?_))
    go_loopg [7, 8] l.length (fun kq v7 v8 wx => ∃ (i cb : Nat) (g : Nat → Bool), v7 = .slice (some ⟨cb, 0, none⟩) (n.size + 1) (n.size + 1) ∧ v8 = .int .i64 (i : Int) ∧ l.length ≤ i + kq ∧ i ≤ l.length ∧ Aside0 (One w1 n.size cb g wx) ∧ Aside0 (M stS onS l n.data.toList ↔ ∃ k, k ≤ n.data.toList.length ∧ g k = true ∧ M stS onS (l.drop i) (n.data.toList.drop k)))
    case atStart =>
      refine ⟨0, w1.heap.size, fun j => if j = 0 then true else false, rfl, rfl, by omega, by omega, ⟨by first | exact One.made2 (Below.refl _ _) | exact (One.made (Below.refl _ _)).put 0 true⟩, ⟨?_⟩⟩
      rw [List.drop_zero]
      constructor
      · intro h
        exact ⟨0, Nat.zero_le _, rfl, h⟩
      · rintro ⟨k, _, hk, h⟩
        by_cases e : k = 0
        · subst e; exact h
        · simp [e] at hk
    case round =>
      obtain ⟨i, cb, g, rfl, rfl, hk, hil, HO, HM⟩ := hrel
      by_cases hlt : i < l.length
      · obtain ⟨q, rfl⟩ : ∃ q, gk = q + 1 := ⟨gk - 1, by omega⟩
        obtain ⟨p, hpi⟩ : ∃ p, l[i]? = some p := ⟨l[i], List.getElem?_eq_getElem hlt⟩
        obtain ⟨b, rfl, hst, hpc⟩ := HPR.out i p hpi
        have di : decide ((i : Int) < (l.length : Int)) = true := decide_eq_true (by omega)
        have i0 : (0 ≤ (i : Int)) = True := eq_true (by omega)
        have i1 : ((i : Int) < (l.length : Int)) = True := eq_true (by omega)
        have wi : wrap64 ((i : Int) + 1) = ((i + 1 : Nat) : Int) := by have := HLL.out; simp only [wrap64]; omega
        have hd : l.drop i = p :: l.drop (i + 1) := by
          rw [List.drop_eq_getElem_cons hlt]
          rw [List.getElem?_eq_getElem hlt] at hpi
          rw [Option.some.inj hpi]
        have HD := Aside0.mk (And.intro hd (And.intro hk hlt))
        have HC := Aside0.mk (And.intro hst hpc)
        have HT := Aside0.mk HO.out.two
        clear hd hk hil hst hpc hpi
        go_wp2_with (refine wpList_makeB rfl _ _ rfl n.size HN.out (by first | rfl | exact congrArg (Value.int .i64) wn) (by first | rfl | exact congrArg (Value.int .i64) wn) ?_)
        go_loopg [10] (n.size + 1) (fun kq v10 ux => ∃ k : Nat, v10 = .int .i64 (k : Int) ∧ n.size + 1 ≤ k + kq ∧ k ≤ n.size + 1 ∧ Aside0 (Two w1 n.size cb wr.heap.size g (goS (stS p) (onN n.data.toList p) g k) ux))
        case atStart => exact ⟨0, rfl, by omega, by omega, ⟨HT.out.congr fun c _ => (goS_zero _ _ _ _).symm⟩⟩
        case round =>
          obtain ⟨k, rfl, hk2, hkn, HT⟩ := hrel
          by_cases hkl : k ≤ n.size
          · obtain ⟨q2, rfl⟩ : ∃ q2, gk = q2 + 1 := ⟨gk - 1, by omega⟩
            have dk : decide ((k : Int) ≤ (n.size : Int)) = true := decide_eq_true (by omega)
            have k0 : (0 ≤ (k : Int)) = True := eq_true (by omega)
            have k1 : ((k : Int) < (n.size : Int) + 1) = True := eq_true (by omega)
            have wk : wrap64 ((k : Int) + 1) = (k : Int) + 1 := by have := HN.out; simp only [wrap64]; omega
            have kc := HT.out.cell k hkl
            have HK := Aside0.mk (And.intro hk2 hkl)
            cases hg : g k with
            | false =>
              rw [hg] at kc
              have HG := Aside0.mk hg
              clear hk2 hkn hg
              go_wp2
              go_roundg q2
              case measure => exact Nat.lt_succ_self _
              case rel => exact ⟨k + 1, by first | rfl | (rw [wk]; rfl) | (rw [wk]; done), by have := HK.out; omega, by have := HK.out; omega, ⟨HT.out.congr fun c _ => by rw [goS_succ, HG.out, Bool.false_and, Bool.or_false]⟩⟩
            | true =>
              rw [hg] at kc
              cases hst : stS p with
              | true =>
                have HS := Aside0.mk (And.intro hg hst)
                rw [hst] at HC HT
                have ks := cell_below HT.out.bel HC.out.1
                clear hk2 hkn hg hst
                go_wp2
                go_loopg [11] (n.size + 1) (fun kq v11 uy => ∃ j : Nat, v11 = .int .i64 (j : Int) ∧ n.size + 1 ≤ j + kq ∧ k ≤ j ∧ j ≤ n.size + 1 ∧ Aside0 (Two w1 n.size cb _ g (fun m => goS true (onN n.data.toList p) g k m || (decide (k ≤ m) && decide (m < j))) uy))
                case atStart => exact ⟨k, rfl, by omega, Nat.le_refl _, by have := HK.out; omega, ⟨HT.out.congr fun c _ => by
                  by_cases e : k ≤ c
                  · rw [decide_eq_true e, Bool.true_and, decide_eq_false (by omega), Bool.or_false]
                  · rw [decide_eq_false e, Bool.false_and, Bool.or_false]⟩⟩
                case round =>
                  obtain ⟨j, rfl, hj2, hkj, hjn, HT2⟩ := hrel
                  by_cases hjl : j ≤ n.size
                  · obtain ⟨q3, rfl⟩ : ∃ q3, gk = q3 + 1 := ⟨gk - 1, by omega⟩
                    have dj : decide ((j : Int) ≤ (n.size : Int)) = true := decide_eq_true (by omega)
                    have j0 : (0 ≤ (j : Int)) = True := eq_true (by omega)
                    have j1 : ((j : Int) < (n.size : Int) + 1) = True := eq_true (by omega)
                    have wj : wrap64 ((j : Int) + 1) = (j : Int) + 1 := by have := HN.out; simp only [wrap64]; omega
                    have jc := HT2.out.cell2 j hjl
                    have jf := HT2.out.free j
                    have HJ := Aside0.mk (And.intro hj2 (And.intro hjl hkj))
                    clear hj2 hkj hjn
                    go_wp2
                    go_roundg q3
                    case measure => exact Nat.lt_succ_self _
                    case rel =>
                      obtain ⟨hj2, hjl, hkj⟩ := HJ.out
                      exact ⟨j + 1, by first | rfl | (rw [wj]; rfl) | (rw [wj]; done), by omega, by omega, by omega, ⟨(HT2.out.put j true).congr fun m hm => by
                        show (if m = j then true else _) = _
                        by_cases e : m = j
                        · subst e; rw [if_pos rfl, decide_eq_true hkj, decide_eq_true (Nat.lt_succ_self _)]; simp
                        · rw [if_neg e, decide_eq_decide.2 (lt_iff_of_ne e)]⟩⟩
                  · have dj : decide ((j : Int) ≤ (n.size : Int)) = false := decide_eq_false (by omega)
                    have HJ := Aside0.mk (And.intro hjl hjn)
                    clear hj2 hkj hjn
                    go_wp2
                    go_roundg q2
                    case measure => exact Nat.lt_succ_self _
                    case rel =>
                      obtain ⟨hjl, hjn⟩ := HJ.out
                      exact ⟨k + 1, by first | rfl | (rw [wk]; rfl) | (rw [wk]; done), by have := HK.out; omega, by have := HK.out; omega, ⟨HT2.out.congr fun m hm => by rw [goS_succ, HS.out.1, HS.out.2, Bool.true_and, relS, if_pos rfl, decide_eq_true (show m < j by omega), Bool.and_true]⟩⟩
              | false =>
                have HS := Aside0.mk (And.intro hg hst)
                by_cases hkt : k < n.size
                · have dt : decide ((k : Int) < (n.size : Int)) = true := decide_eq_true (by omega)
                  have t1 : ((k : Int) < (n.size : Int)) = True := eq_true (by omega)
                  have u1 : ((k : Int) + 1 < (n.size : Int) + 1) = True := eq_true (by omega)
                  have u0 : (0 ≤ (k : Int) + 1) = True := eq_true (by omega)
                  have hpk : pc p n[k].toNat = onN n.data.toList p k := by
                    rw [pc_on hst]
                    unfold onN
                    rw [at_list n k hkt]
                  have c256 : n[k].toNat < 256 := n[k].toNat_lt
                  have c0 : (0 ≤ (n[k].toNat : Int)) = True := eq_true (by omega)
                  have c1 : ((n[k].toNat : Int) < 256) = True := eq_true (by omega)
                  have ks := cell_below HT.out.bel HC.out.1
                  have kp := cell_below HT.out.bel (HC.out.2 _ c256)
                  rw [hst] at ks
                  rw [hpk] at kp
                  rw [hst] at HT
                  have jc := HT.out.cell2 (k + 1) hkt
                  have jf := HT.out.free (k + 1)
                  cases hon : onN n.data.toList p k with
                  | true =>
                    rw [hon] at kp
                    have HO2 := Aside0.mk hon
                    clear hk2 hkn hg hst hpk c256 hon
                    have HSS : wr.cell? ⟨b, i * 257 + 1 + n[k].toNat, none⟩ = some (.bool true) ∧ Below wr.heap.size wr wr := ⟨kp, Below.refl _ _⟩
                    go_wp2
                    go_region_held3 (fun u => u.cell? ⟨b, i * 257 + 1 + n[k].toNat, none⟩ = some (.bool true) ∧ Below wr.heap.size wr u) (exact s_drew (by assumption)) (fail)
                    rename_i hS2
                    have HT := Aside0.mk (HT.out.below hS2.2)
                    clear kp ks kc jc jf hS2 HSS
                    have jc := HT.out.cell2 (k + 1) hkt
                    have jf := HT.out.free (k + 1)
                    go_wp2
                    go_roundg q2
                    case measure => exact Nat.lt_succ_self _
                    case rel => exact ⟨k + 1, by first | rfl | (rw [wk]; rfl) | (rw [wk]; done), by have := HK.out; omega, by have := HK.out; omega, ⟨by
                      rw [HS.out.2]
                      exact (HT.out.put (k + 1) true).congr fun m hm => by
                        show (if m = k + 1 then true else _) = _
                        rw [goS_succ, HS.out.1, Bool.true_and, show relS false (onN n.data.toList p) k m = (decide (m = k + 1) && onN n.data.toList p k) from rfl, HO2.out, Bool.and_true]
                        by_cases e : m = k + 1
                        · rw [if_pos e, decide_eq_true e, Bool.or_true]
                        · rw [if_neg e, decide_eq_false e, Bool.or_false]⟩⟩
                  | false =>
                    rw [hon] at kp
                    have HO2 := Aside0.mk hon
                    clear hk2 hkn hg hst hpk c256 hon
                    have HSS : wr.cell? ⟨b, i * 257 + 1 + n[k].toNat, none⟩ = some (.bool false) ∧ Below wr.heap.size wr wr := ⟨kp, Below.refl _ _⟩
                    go_wp2
                    go_region_held3 (fun u => u.cell? ⟨b, i * 257 + 1 + n[k].toNat, none⟩ = some (.bool false) ∧ Below wr.heap.size wr u) (exact s_drew (by assumption)) (fail)
                    rename_i hS2
                    have HT := Aside0.mk (HT.out.below hS2.2)
                    clear kp ks kc jc jf hS2 HSS
                    have jc := HT.out.cell2 (k + 1) hkt
                    have jf := HT.out.free (k + 1)
                    go_wp2
                    go_roundg q2
                    case measure => exact Nat.lt_succ_self _
                    case rel => exact ⟨k + 1, by first | rfl | (rw [wk]; rfl) | (rw [wk]; done), by have := HK.out; omega, by have := HK.out; omega, ⟨by
                      rw [HS.out.2]
                      exact HT.out.congr fun m hm => by rw [goS_succ, relS, if_neg (by decide), HO2.out, Bool.and_false, Bool.and_false, Bool.or_false]⟩⟩
                · have dt : decide ((k : Int) < (n.size : Int)) = false := decide_eq_false (by omega)
                  have hon : onN n.data.toList p k = false := by
                    unfold onN
                    rw [List.getElem?_eq_none (by rw [HNL.out]; omega)]
                  have ks := cell_below HT.out.bel HC.out.1
                  rw [hst] at ks
                  rw [hst] at HT
                  have HO2 := Aside0.mk hon
                  clear hk2 hkn hg hst hon
                  go_wp2
                  go_region
                  have HT := Aside0.mk (HT.out.below (below_drew (Below.refl _ _)))
                  go_wp2
                  go_roundg q2
                  case measure => exact Nat.lt_succ_self _
                  case rel => exact ⟨k + 1, by first | rfl | (rw [wk]; rfl) | (rw [wk]; done), by have := HK.out; omega, by have := HK.out; omega, ⟨by
                    rw [HS.out.2]
                    exact HT.out.congr fun m hm => by rw [goS_succ, relS, if_neg (by decide), HO2.out, Bool.and_false, Bool.and_false, Bool.or_false]⟩⟩
          · have dk : decide ((k : Int) ≤ (n.size : Int)) = false := decide_eq_false (by omega)
            obtain rfl : k = n.size + 1 := by omega
            have HM2 : Aside0 (M stS onS l n.data.toList ↔ ∃ k, k ≤ n.data.toList.length ∧ goS (stS p) (onN n.data.toList p) g (n.size + 1) k = true ∧ M stS onS (l.drop (i + 1)) (n.data.toList.drop k)) := ⟨by
              rw [HM.out, HD.out.1, go_law, HNL.out]⟩
            clear hk2 hkn hkl
            go_wp2
            go_roundg q
            case measure => exact Nat.lt_succ_self _
            case rel =>
              obtain ⟨_, hk, hlt⟩ := HD.out
              exact ⟨i + 1, _, _, rfl, by first | rfl | (rw [wi]; done), by omega, by omega, ⟨HT.out.one⟩, HM2⟩
      · have di : decide ((i : Int) < (l.length : Int)) = false := decide_eq_false (by omega)
        have k0 : (0 ≤ (n.size : Int)) = True := eq_true (by omega)
        have k1 : ((n.size : Int) < (n.size : Int) + 1) = True := eq_true (by omega)
        have kc := HO.out.cell n.size (Nat.le_refl _)
        have HE : Aside0 (g n.size = R) := ⟨by
          rw [← HR.out, T_iff HM.out, List.drop_eq_nil_of_le (by omega), T_iff (go_end _ _), HNL.out]
          cases g n.size with
          | true => exact (T_pos rfl).symm
          | false => exact (T_neg (by decide)).symm⟩
        clear hk hil
        go_wp2
        go_ret
        exact ⟨by rw [HE.out, HR.out]; rfl, HB1.out.trans (HO.out.bel.mono HB1.out.size)⟩
end Go.Proofs.YtefomcoimbnalaaDoor.Gw
