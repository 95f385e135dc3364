/- What ref28.set does at any text: what Gl says. Conditions: as the theorems state them. -/
import Derived.Test.YtefomcoimbnalaaDoorGlR
namespace Go.Proofs.YtefomcoimbnalaaDoor.Gw
open Go Go.RowKit Go.Gl
set_option maxRecDepth 100000
set_option maxHeartbeats 16000000
theorem set_a (s : ByteArray) (hs : s.size ≤ 1000) (y : ByteArray) (hy : y = s.extract 1 s.size) (hs2 : y.size ≤ 1000) (h33 : s.data.toList.head? = some 33) (w : World) : Calls Tryd.prog 14 #[.string s] w fun e w' => e = .returned (.agg (pcells false fun c => !rng y.data.toList c.toUInt8)) ∧ Below w.heap.size w w' := by
  have hz : 0 < s.size := by
    rw [sz]
    cases hx : s.data.toList with
    | nil => rw [hx] at h33; cases h33
    | cons a t => simp
  have g0 : s[0] = 33 := by have := at_list s 0 hz; rw [← List.head?_eq_getElem?, h33] at this; exact (Option.some.inj this).symm
  have d0 : decide ((s.size : Int) > 0) = true := decide_eq_true (by omega)
  have d1 : decide ((0 : Int) < (s.size : Int)) = true := decide_eq_true (by omega)
  have d2 : ((1 : Int) ≤ (s.size : Int)) = True := eq_true (by omega)
  have PF := Aside0.mk (Pt.first w)
  clear h33
  go_enter Tryd.func14, Tryd.ntmps14
  go_wp2
  rw [← hy]
  clear hy d0 d1 d2 g0 hs hz
  go_loopg [5] y.size (fun kq v5 wx => ∃ (i : Nat) (g : Nat → Bool), v5 = .int .i64 (i : Int) ∧ y.size ≤ i + kq ∧ Aside0 (∀ c : Nat, c < 256 → (g c || rng (y.data.toList.drop i) c.toUInt8) = rng y.data.toList c.toUInt8) ∧ Aside0 (Pt w g wx))
  case atStart => exact ⟨0, fun _ => false, rfl, by omega, ⟨fun c _ => by simp⟩, PF⟩
  case round =>
    obtain ⟨i, g, rfl, hk, HG, HP⟩ := hrel
    have HK := Aside0.mk hk
    by_cases hlt : i < y.size
    · obtain ⟨q, rfl⟩ : ∃ q, gk = q + 1 := ⟨gk - 1, by omega⟩
      have di : decide ((i : Int) < (y.size : Int)) = true := decide_eq_true (by omega)
      have i0 : (0 ≤ (i : Int)) = True := eq_true (by omega)
      have i1 : ((i : Int) < (y.size : Int)) = True := eq_true (by omega)
      have hd : y.data.toList.drop i = y[i] :: y.data.toList.drop (i + 1) := by
        have h1 : i < y.data.toList.length := by rw [← sz]; exact hlt
        rw [List.drop_eq_getElem_cons h1]
        have := at_list y i hlt
        rw [List.getElem?_eq_getElem h1] at this
        rw [Option.some.inj this]
      by_cases hr : i + 2 < y.size ∧ y.data.toList[i + 1]? = some 45
      · have wl : wrap64 (y[i].toNat : Int) = (y[i].toNat : Int) := by have := y[i].toNat_lt; simp only [wrap64]; omega
        have w1 : wrap64 ((i : Int) + 1) = ((i + 1 : Nat) : Int) := by simp only [wrap64]; omega
        have w2 : wrap64 ((i : Int) + 2) = ((i + 2 : Nat) : Int) := by simp only [wrap64]; omega
        have h2 : i + 2 < y.size := hr.1
        have wl2 : wrap64 (y[i + 2].toNat : Int) = (y[i + 2].toNat : Int) := by have := y[i + 2].toNat_lt; simp only [wrap64]; omega
        have h1 : i + 1 < y.size := by omega
        have g1 : y[i + 1] = 45 := by have := at_list y (i + 1) h1; rw [hr.2] at this; exact (Option.some.inj this).symm
        have HGX := HG.out
        rw [hd] at HGX
        simp only [rng_far _ (show 2 ≤ (y.data.toList.drop (i + 1)).length ∧ (y.data.toList.drop (i + 1))[0]? = some 45 from ⟨by rw [List.length_drop, ← sz]; omega, by rw [List.getElem?_drop]; exact hr.2⟩)] at HGX
        rw [show (y.data.toList.drop (i + 1)).getD 1 0 = y[i + 2] by rw [List.getD_eq_getElem?_getD, List.getElem?_drop, at_list y (i + 2) h2]; rfl, List.drop_drop, show i + 1 + 2 = i + 3 by omega] at HGX
        have HGX := Aside0.mk HGX
        have d2 : decide ((i : Int) + 2 < (y.size : Int)) = true := decide_eq_true (by omega)
        have i2 : (0 ≤ (i : Int) + 1) = True := eq_true (by omega)
        have i3 : ((i : Int) + 1 < (y.size : Int)) = True := eq_true (by omega)
        have i4 : (0 ≤ (i : Int) + 2) = True := eq_true (by omega)
        have i5 : ((i : Int) + 2 < (y.size : Int)) = True := eq_true (by omega)
        have w3 : wrap64 ((i : Int) + 2 + 1) = ((i + 3 : Nat) : Int) := by simp only [wrap64]; omega
        clear HG hd hr
        have HB0 := Aside0.mk hk
        clear hs2 hk
        go_wp2
        go_region
        go_wp2
        go_loopg [8] 256 (fun kq v8 ux => ∃ (c : Nat) (g2 : Nat → Bool), v8 = .int .i64 (c : Int) ∧ 256 ≤ c + kq ∧ c ≤ 256 ∧ y[i].toNat ≤ c ∧ (c ≤ y[i + 2].toNat + 1 ∨ c = y[i].toNat) ∧ Aside0 (∀ j : Nat, j < 256 → g2 j = (g j || (decide (y[i].toNat ≤ j) && decide (j < c)))) ∧ Aside0 (Pt w g2 ux))
        case atStart =>
          refine ⟨y[i].toNat, g, by rw [wl], by omega, by have := y[i].toNat_lt; omega, Nat.le_refl _, Or.inr rfl, ⟨fun j _ => ?_⟩, ⟨HP.out.drew⟩⟩
          by_cases h : y[i].toNat ≤ j
          · rw [decide_eq_false (show ¬ j < y[i].toNat by omega), Bool.and_false, Bool.or_false]
          · rw [decide_eq_false h, Bool.false_and, Bool.or_false]
        case round =>
          obtain ⟨c, g2, rfl, hk2, hc2, hlo, hor, HG2, HP2⟩ := hrel
          by_cases hle : c ≤ y[i + 2].toNat
          · have c256 : c < 256 := by have := y[i + 2].toNat_lt; omega
            obtain ⟨q2, rfl⟩ : ∃ q2, gk = q2 + 1 := ⟨gk - 1, by omega⟩
            have dc : decide ((c : Int) ≤ (y[i + 2].toNat : Int)) = true := decide_eq_true (by omega)
            have c0 : (0 ≤ (c : Int)) = True := eq_true (by omega)
            have c1 : ((c : Int) < 256) = True := eq_true (by omega)
            have wc : wrap64 ((c : Int) + 1) = ((c + 1 : Nat) : Int) := by simp only [wrap64]; omega
            have kc := HP2.out.cell c c256
            have kf := HP2.out.free c
            have HN := Aside0.mk (And.intro hk2 (And.intro hc2 (And.intro hlo c256)))
            clear hk2 hc2 hlo hor c256
            go_wp2
            go_roundg q2
            case measure => omega
            case rel =>
              obtain ⟨hk2, hc2, hlo, c256⟩ := HN.out
              exact ⟨c + 1, fun j => if j = c then true else g2 j, by first | rfl | (rw [wc]; done), fwd256 hk2, c256, Nat.le_succ_of_le hlo, Or.inl (Nat.succ_le_succ hle), ⟨fun j hj => by
              show (if j = c then true else g2 j) = _
              by_cases e : j = c
              · subst e; rw [if_pos rfl, decide_eq_true hlo, decide_eq_true (Nat.lt_succ_self _)]; simp
              · rw [if_neg e, HG2.out j hj]
                congr 2
                exact decide_eq_decide.2 (lt_iff_of_ne e)⟩, ⟨HP2.out.put c c256 true⟩⟩
          · have dc : decide ((c : Int) ≤ (y[i + 2].toNat : Int)) = false := decide_eq_false (by omega)
            have HN := Aside0.mk hor
            clear hk2 hc2 hlo hor
            go_wp2
            go_roundg q
            case measure => omega
            case rel => exact ⟨i + 3, g2, by first | rfl | (rw [w3]; done), by have := HB0.out; omega, ⟨step_g HGX.out HG2.out HN.out hle⟩, HP2⟩
      · by_cases h2 : i + 2 < y.size
        · have wl : wrap64 (y[i].toNat : Int) = (y[i].toNat : Int) := by have := y[i].toNat_lt; simp only [wrap64]; omega
          have w1 : wrap64 ((i : Int) + 1) = ((i + 1 : Nat) : Int) := by simp only [wrap64]; omega
          have w2 : wrap64 ((i : Int) + 2) = ((i + 2 : Nat) : Int) := by simp only [wrap64]; omega
          have h1 : i + 1 < y.size := by omega
          have g1 : y[i + 1] ≠ 45 := fun e => hr ⟨h2, by rw [at_list y (i + 1) h1, e]⟩
          have g2 : ((y[i + 1].toNat : Int) == 45) = false := by rw [show (45 : Int) = ((45 : UInt8).toNat : Int) from rfl, byte_eq]; exact beq_eq_false_iff_ne.2 g1
          have HGX := HG.out
          rw [hd] at HGX
          simp only [rng_one _ (show ¬ (2 ≤ (y.data.toList.drop (i + 1)).length ∧ (y.data.toList.drop (i + 1))[0]? = some 45) from fun h => hr ⟨by have := h.1; rw [List.length_drop, ← sz] at this; omega, by have := h.2; rw [List.getElem?_drop] at this; exact this⟩)] at HGX
          have HGX := Aside0.mk HGX
          have d2 : decide ((i : Int) + 2 < (y.size : Int)) = true := decide_eq_true (by omega)
          have i2 : (0 ≤ (i : Int) + 1) = True := eq_true (by omega)
          have i3 : ((i : Int) + 1 < (y.size : Int)) = True := eq_true (by omega)
          clear HG hd hr g1
          go_wp2
          go_region
          go_wp2
          go_loopg [8] 256 (fun kq v8 ux => ∃ (c : Nat) (g2 : Nat → Bool), v8 = .int .i64 (c : Int) ∧ 256 ≤ c + kq ∧ c ≤ 256 ∧ y[i].toNat ≤ c ∧ (c ≤ y[i].toNat + 1 ∨ c = y[i].toNat) ∧ Aside0 (∀ j : Nat, j < 256 → g2 j = (g j || (decide (y[i].toNat ≤ j) && decide (j < c)))) ∧ Aside0 (Pt w g2 ux))
          case atStart =>
            refine ⟨y[i].toNat, g, by rw [wl], by omega, by have := y[i].toNat_lt; omega, Nat.le_refl _, Or.inr rfl, ⟨fun j _ => ?_⟩, ⟨HP.out.drew⟩⟩
            by_cases h : y[i].toNat ≤ j
            · rw [decide_eq_false (show ¬ j < y[i].toNat by omega), Bool.and_false, Bool.or_false]
            · rw [decide_eq_false h, Bool.false_and, Bool.or_false]
          case round =>
            obtain ⟨c, g2, rfl, hk2, hc2, hlo, hor, HG2, HP2⟩ := hrel
            by_cases hle : c ≤ y[i].toNat
            · have c256 : c < 256 := by have := y[i].toNat_lt; omega
              obtain ⟨q2, rfl⟩ : ∃ q2, gk = q2 + 1 := ⟨gk - 1, by omega⟩
              have dc : decide ((c : Int) ≤ (y[i].toNat : Int)) = true := decide_eq_true (by omega)
              have c0 : (0 ≤ (c : Int)) = True := eq_true (by omega)
              have c1 : ((c : Int) < 256) = True := eq_true (by omega)
              have wc : wrap64 ((c : Int) + 1) = ((c + 1 : Nat) : Int) := by simp only [wrap64]; omega
              have kc := HP2.out.cell c c256
              have kf := HP2.out.free c
              have HN := Aside0.mk (And.intro hk2 (And.intro hc2 (And.intro hlo c256)))
              clear hk2 hc2 hlo hor c256
              go_wp2
              go_roundg q2
              case measure => omega
              case rel =>
                obtain ⟨hk2, hc2, hlo, c256⟩ := HN.out
                exact ⟨c + 1, fun j => if j = c then true else g2 j, by first | rfl | (rw [wc]; done), fwd256 hk2, c256, Nat.le_succ_of_le hlo, Or.inl (Nat.succ_le_succ hle), ⟨fun j hj => by
                show (if j = c then true else g2 j) = _
                by_cases e : j = c
                · subst e; rw [if_pos rfl, decide_eq_true hlo, decide_eq_true (Nat.lt_succ_self _)]; simp
                · rw [if_neg e, HG2.out j hj]
                  congr 2
                  exact decide_eq_decide.2 (lt_iff_of_ne e)⟩, ⟨HP2.out.put c c256 true⟩⟩
            · have dc : decide ((c : Int) ≤ (y[i].toNat : Int)) = false := decide_eq_false (by omega)
              have HN := Aside0.mk hor
              clear hk2 hc2 hlo hor
              go_wp2
              go_roundg q
              case measure => omega
              case rel => exact ⟨i + 1, g2, by first | rfl | (rw [w1]; done), by omega, ⟨step_g HGX.out HG2.out HN.out hle⟩, HP2⟩
        · have wl : wrap64 (y[i].toNat : Int) = (y[i].toNat : Int) := by have := y[i].toNat_lt; simp only [wrap64]; omega
          have w1 : wrap64 ((i : Int) + 1) = ((i + 1 : Nat) : Int) := by simp only [wrap64]; omega
          have w2 : wrap64 ((i : Int) + 2) = ((i + 2 : Nat) : Int) := by simp only [wrap64]; omega
          have HGX := HG.out
          rw [hd] at HGX
          simp only [rng_one _ (show ¬ (2 ≤ (y.data.toList.drop (i + 1)).length ∧ (y.data.toList.drop (i + 1))[0]? = some 45) from fun h => hr ⟨by have := h.1; rw [List.length_drop, ← sz] at this; omega, by have := h.2; rw [List.getElem?_drop] at this; exact this⟩)] at HGX
          have HGX := Aside0.mk HGX
          have d2 : decide ((i : Int) + 2 < (y.size : Int)) = false := decide_eq_false (by omega)
          clear HG hd hr
          go_wp2
          go_region
          go_wp2
          go_loopg [8] 256 (fun kq v8 ux => ∃ (c : Nat) (g2 : Nat → Bool), v8 = .int .i64 (c : Int) ∧ 256 ≤ c + kq ∧ c ≤ 256 ∧ y[i].toNat ≤ c ∧ (c ≤ y[i].toNat + 1 ∨ c = y[i].toNat) ∧ Aside0 (∀ j : Nat, j < 256 → g2 j = (g j || (decide (y[i].toNat ≤ j) && decide (j < c)))) ∧ Aside0 (Pt w g2 ux))
          case atStart =>
            refine ⟨y[i].toNat, g, by rw [wl], by omega, by have := y[i].toNat_lt; omega, Nat.le_refl _, Or.inr rfl, ⟨fun j _ => ?_⟩, ⟨HP.out.drew⟩⟩
            by_cases h : y[i].toNat ≤ j
            · rw [decide_eq_false (show ¬ j < y[i].toNat by omega), Bool.and_false, Bool.or_false]
            · rw [decide_eq_false h, Bool.false_and, Bool.or_false]
          case round =>
            obtain ⟨c, g2, rfl, hk2, hc2, hlo, hor, HG2, HP2⟩ := hrel
            by_cases hle : c ≤ y[i].toNat
            · have c256 : c < 256 := by have := y[i].toNat_lt; omega
              obtain ⟨q2, rfl⟩ : ∃ q2, gk = q2 + 1 := ⟨gk - 1, by omega⟩
              have dc : decide ((c : Int) ≤ (y[i].toNat : Int)) = true := decide_eq_true (by omega)
              have c0 : (0 ≤ (c : Int)) = True := eq_true (by omega)
              have c1 : ((c : Int) < 256) = True := eq_true (by omega)
              have wc : wrap64 ((c : Int) + 1) = ((c + 1 : Nat) : Int) := by simp only [wrap64]; omega
              have kc := HP2.out.cell c c256
              have kf := HP2.out.free c
              have HN := Aside0.mk (And.intro hk2 (And.intro hc2 (And.intro hlo c256)))
              clear hk2 hc2 hlo hor c256
              go_wp2
              go_roundg q2
              case measure => omega
              case rel =>
                obtain ⟨hk2, hc2, hlo, c256⟩ := HN.out
                exact ⟨c + 1, fun j => if j = c then true else g2 j, by first | rfl | (rw [wc]; done), fwd256 hk2, c256, Nat.le_succ_of_le hlo, Or.inl (Nat.succ_le_succ hle), ⟨fun j hj => by
                show (if j = c then true else g2 j) = _
                by_cases e : j = c
                · subst e; rw [if_pos rfl, decide_eq_true hlo, decide_eq_true (Nat.lt_succ_self _)]; simp
                · rw [if_neg e, HG2.out j hj]
                  congr 2
                  exact decide_eq_decide.2 (lt_iff_of_ne e)⟩, ⟨HP2.out.put c c256 true⟩⟩
            · have dc : decide ((c : Int) ≤ (y[i].toNat : Int)) = false := decide_eq_false (by omega)
              have HN := Aside0.mk hor
              clear hk2 hc2 hlo hor
              go_wp2
              go_roundg q
              case measure => omega
              case rel => exact ⟨i + 1, g2, by first | rfl | (rw [w1]; done), by omega, ⟨step_g HGX.out HG2.out HN.out hle⟩, HP2⟩
    · have di : decide ((i : Int) < (y.size : Int)) = false := decide_eq_false (by omega)
      have HP3 : Aside0 (Pt w (fun j => rng y.data.toList j.toUInt8) wr) := ⟨HP.out.congr fun c hc => by rw [← HG.out c hc, List.drop_eq_nil_of_le (by rw [← sz]; omega), rng_nil, Bool.or_false]⟩
      clear HG HP hk
      go_wp2
      go_loopg [9] 256 (fun kq v9 ux => ∃ c : Nat, v9 = .int .i64 (c : Int) ∧ c ≤ 256 ∧ 256 ≤ c + kq ∧ Aside0 (Pt w (fun j => if j < c then !rng y.data.toList j.toUInt8 else rng y.data.toList j.toUInt8) ux))
      case atStart => exact ⟨0, rfl, by omega, by omega, ⟨HP3.out.congr fun c _ => by simp⟩⟩
      case round =>
        obtain ⟨c, rfl, hc2, hk2, HP2⟩ := hrel
        by_cases hlt2 : c < 256
        · obtain ⟨q2, rfl⟩ : ∃ q2, gk = q2 + 1 := ⟨gk - 1, by omega⟩
          have dc : decide ((c : Int) < 256) = true := decide_eq_true (by omega)
          have c0 : (0 ≤ (c : Int)) = True := eq_true (by omega)
          have c1 : ((c : Int) < 256) = True := eq_true (by omega)
          have wc : wrap64 ((c : Int) + 1) = ((c + 1 : Nat) : Int) := by simp only [wrap64]; omega
          have kc := HP2.out.cell c hlt2
          simp only [Nat.lt_irrefl, if_false] at kc
          have kf := HP2.out.free c
          have HN := Aside0.mk (And.intro hk2 (And.intro hc2 hlt2))
          have HP4 : ∀ v : Bool, v = (!rng y.data.toList c.toUInt8) → Aside0 (Pt w (fun j => if j < c + 1 then !rng y.data.toList j.toUInt8 else rng y.data.toList j.toUInt8) (World.setCell _ ⟨w.heap.size + 1, 1 + c, none⟩ (.bool v))) := fun v hv => ⟨(HP2.out.put c hlt2 v).congr fun j hj => by
            show (if j = c then v else if j < c then _ else _) = _
            by_cases e : j = c
            · subst e; rw [if_pos rfl, hv, if_pos (Nat.lt_succ_self _)]
            · rw [if_neg e]
              by_cases e2 : j < c
              · rw [if_pos e2, if_pos (by omega)]
              · rw [if_neg e2, if_neg (by omega)]⟩
          clear hk2 hc2 hlt2 HP2
          generalize rng y.data.toList c.toUInt8 = rc at kc HP4
          go_wp2
          go_roundg q2
          case measure => omega
          case rel =>
            obtain ⟨hk2, hc2, hlt2⟩ := HN.out
            exact ⟨c + 1, by first | rfl | (rw [wc]; done), by omega, by omega, HP4 _ rfl⟩
        · have dc : decide ((c : Int) < 256) = false := decide_eq_false (by omega)
          have HQ : Aside0 (Pt w (fun j => !rng y.data.toList j.toUInt8) _) := ⟨HP2.out.congr fun j hj => by rw [if_pos (by omega)]⟩
          clear HP2 hk2 hc2
          go_wp2_with (first
            | (refine wpList_load_row rfl 36 _ rfl (w.heap.size + 1) rfl _ _ (0, 0) _ HQ.out.part Tryd.underlying36 rfl (info_cells _ _) ?_)
            | (refine wpList_store_row rfl 36 _ _ rfl w.heap.size _ rfl rfl _ _ HQ.out.res (info_cells _ _) (by rw [pcells_size]; exact zero_size) (pcells_one _ _) ?_))
          refine bodyPost_ret (results_cell_row rfl _ _ w.heap.size _ _ (0, 0) _ rfl (setRow_heap _ _ _ _ _ _ HQ.out.res) Tryd.underlying36 rfl (info_cells _ _)) rfl ?_
          exact ⟨rfl, below_setRow HQ.out.bel (Nat.le_refl _) _⟩

end Go.Proofs.YtefomcoimbnalaaDoor.Gw
