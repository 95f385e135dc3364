/- The law CensusCount, walked, its 'lives' given: whatever the two rows of nodes hold, so long as they are short. Conditions: as the theorems state them. -/
import Derived.Test.YtgeckikdpipabaaGreatDoorCount
import Derived.Laws.AppendOwn
import Derived.Laws.OwnMore
namespace Go.Proofs.YtgeckikdpipabaaGreatDoor.Count
open Go Go.RowKit Go.Cns
set_option maxRecDepth 100000
set_option maxHeartbeats 8000000
def flat (L : List Nd) : List Value := L.flatMap Nd.cells
theorem flat_cons (x : Nd) (L : List Nd) : flat (x :: L) = x.cells ++ flat L := by simp [flat]
theorem flat_append (L M : List Nd) : flat (L ++ M) = flat L ++ flat M := by simp [flat]
theorem flat_length : ∀ L : List Nd, (flat L).length = L.length * 5
  | [] => rfl
  | x :: L => by rw [flat_cons, List.length_append, flat_length L, show x.cells.length = 5 from rfl, List.length_cons]; omega
theorem flat_get : ∀ (L : List Nd) (k : Nat) (u : Value), (flat L)[k]? = some u → ∃ x, L[k / 5]? = some x ∧ x.cells[k % 5]? = some u
  | [], k, u, h => by simp [flat] at h
  | x :: L, k, u, h => by
    rw [flat_cons, List.getElem?_append, show x.cells.length = 5 from rfl] at h
    by_cases hk : k < 5
    · rw [if_pos hk] at h
      exact ⟨x, by rw [Nat.div_eq_of_lt hk]; rfl, by rw [Nat.mod_eq_of_lt hk]; exact h⟩
    · rw [if_neg hk] at h
      obtain ⟨y, h1, h2⟩ := flat_get L (k - 5) u h
      refine ⟨y, ?_, ?_⟩
      · rw [show k / 5 = (k - 5) / 5 + 1 by omega, List.getElem?_cons_succ]; exact h1
      · rw [show k % 5 = (k - 5) % 5 by omega]; exact h2
theorem get_flat : ∀ (L : List Nd) (j : Nat) (x : Nd) (i : Nat) (u : Value), L[j]? = some x → x.cells[i]? = some u → (flat L)[j * 5 + i]? = some u
  | [], j, x, i, u, h, _ => by simp at h
  | y :: L, 0, x, i, u, h, hi => by
    obtain rfl : y = x := by simpa using h
    have h5 : i < 5 := by have := (List.getElem?_eq_some_iff.1 hi).1; simpa [Nd.cells] using this
    rw [flat_cons, List.getElem?_append, show y.cells.length = 5 from rfl, if_pos (by omega)]
    simpa using hi
  | y :: L, j + 1, x, i, u, h, hi => by
    rw [flat_cons, List.getElem?_append, show y.cells.length = 5 from rfl, if_neg (by omega), show (j + 1) * 5 + i - 5 = j * 5 + i by omega]
    exact get_flat L j x i u (by simpa using h) hi
theorem flat_one : ∀ (L : List Nd), ∀ u ∈ flat L, u.oneCell' = true := by
  intro L u hu
  obtain ⟨x, _, hx⟩ := List.mem_flatMap.1 hu
  simp only [Nd.cells, List.mem_cons, List.not_mem_nil, or_false] at hx
  rcases hx with rfl | rfl | rfl | rfl | rfl <;> rfl
theorem row_cells {w : World} {A : Option Addr} {L : List Nd} (h : NRow w A L) : ∀ ad, A = some ad → ∀ (j : Nat) (u : Value), (flat L)[j]? = some u → w.cell? (ad.add j) = some u := by
  intro ad ha j u hu
  obtain ⟨x, h1, h2⟩ := flat_get L j u hu
  obtain ⟨b, o, e, hc⟩ := h _ x h1
  rw [ha] at e
  obtain rfl := Option.some.inj e
  rw [Addr.add_lit, ← hc _ u h2]
  congr 2
  omega
theorem own_row {w : World} {base : Nat} {e : TypeId} {v : Value} {n : Nat} {L : List Nd} (h : w.ownsRow base e 5 v n (flat L)) : ∃ A c, v = .slice A L.length c ∧ NRow w A L := by
  have hn : n = L.length := by have := h.1; rw [flat_length] at this; omega
  subst hn
  rcases h.2 with ⟨rfl, hn⟩ | ⟨g, cap, cur, rfl, _⟩
  · have : L = [] := List.eq_nil_of_length_eq_zero hn
    subst this
    exact ⟨none, 0, rfl, fun j x hj => by simp at hj⟩
  · refine ⟨some ⟨g, 0, none⟩, cap, rfl, fun j x hj => ⟨g, 0, rfl, fun i u hu => ?_⟩⟩
    have := h.cells (g := g) rfl (j * 5 + i) u (get_flat L j x i u hj hu)
    rw [Addr.add_lit] at this
    rw [← this]
    congr 2
    omega
theorem append_nodes {ops : Array Oper} {rest : List Oper} {o : Oper} {a : Act} {Q : Exit → Act → World → Prop} (w : World) (hgd : o.guard = none) (s x : Operand)
    (ho : o.op = .call { callee := .builtin .append, args := #[s, x], argTypes := #[22, 22] })
    (base : Nat) (v : Value) (L : List Nd) (hs : a.eval s = v) (hown : w.ownsRow base 28 5 v L.length (flat L))
    (A : Option Addr) (c : Nat) (M : List Nd) (hx : a.eval x = .slice A M.length c) (hnone : A = none → c = 0 ∧ M = []) (hr : NRow w A M) (hlen : L.length + M.length ≤ 2097152) (hbase : base ≤ w.heap.size)
    (h : ∀ v' w', w'.ownsRow base 28 5 v' (L ++ M).length (flat (L ++ M)) → w.grownBy w' v.ownBlock → wpList Tryz.prog ops Q rest (a.put o.dst v') w') : wpList Tryz.prog ops Q (o :: rest) a w := by
  rw [flat_append, List.length_append] at h
  cases A with
  | some ad =>
    exact wpList_append_own w hgd s x 22 ho base 28 ((Tryz.prog.info? 28).get (by kernel_rfl)) (.agg #[.int .i64 0, .int .i64 0, .int .i64 0, .string ByteArray.empty, .slice none 0 0]) 5 64
      Tryz.underlying22 (by kernel_rfl) (by kernel_rfl) (by kernel_rfl) (by kernel_rfl) rfl (by decide) v L.length (flat L) hs hown ad M.length c (flat M) hx (flat_length M) (row_cells hr ad rfl) (flat_one M)
      (by unfold maxLen; omega) (by omega) hbase fun v' w' h2 h3 _ => h v' w' h2 h3
  | none =>
    obtain ⟨rfl, rfl⟩ := hnone rfl
    refine wpList_plain hgd fun K hK' => ?_
    have hrun := run_append_owned_none (P := Tryz.prog) w base 22 o.type 28 ((Tryz.prog.info? 28).get (by kernel_rfl)) 5 Tryz.underlying22 (by kernel_rfl) v L.length (flat L) hown
    unfold Oper.wp
    simp [execOp, ho, resolve, invoke, builtin, hs, hx, hrun, Result.andThen]
    exact hK' _ _ (by simpa [flat] using h v w (by simpa [flat] using hown) (World.grownBy.refl _ _))
theorem below_grown {W w w' : World} {row : Option Nat} (hb : Below W.heap.size W w) (hg : w.grownBy w' row) (hr : ∀ k, row = some k → W.heap.size ≤ k) : Below W.heap.size W w' :=
  ⟨hg.os.trans hb.os, hg.tape.trans hb.tape, hg.output.trans hb.output, Nat.le_trans hb.size hg.size, fun k hk => (hg.block k (Nat.lt_of_lt_of_le hk hb.size) (fun e => by have := hr k e.symm; omega)).trans (hb.block k hk)⟩
theorem law_walk (LV : ∀ W : World, Calls Tryz.prog 4 #[] W fun e w' => e = .returned (.bool true) ∧ Below W.heap.size W w')
    (A : Option Addr) (c : Nat) (L : List Nd) (B : Option Addr) (d : Nat) (M : List Nd) (w : World) (hA : A = none → c = 0 ∧ L = []) (hB : B = none → d = 0 ∧ M = []) (hl : L.length ≤ 1048576) (hm : M.length ≤ 1048576) (ra : NRow w A L) (rb : NRow w B M) :
    Calls Tryz.prog 3 #[.slice A L.length c, .slice B M.length d] w fun e w' => e = .returned (.bool true) ∧ Below w.heap.size w w' := by
  have LV := fun W : World => Aside0.mk (LV W)
  have CA := fun (W : World) (hb : Below w.heap.size w W) => Aside0.mk (count_calls A c L W (by omega) (row_below hb ra))
  have CB := fun (W : World) (hb : Below w.heap.size w W) => Aside0.mk (count_calls B d M W (by omega) (row_below hb rb))
  have CC := fun (W : World) (C : Option Addr) (k : Nat) (hr : NRow W C (L ++ M)) => Aside0.mk (count_calls C k (L ++ M) W (by rw [List.length_append]; omega) hr)
  rw [tot_append] at CC
  simp only [List.length_append] at CC
  have HL : tot L (0, 0, 0) = ((tot L (0, 0, 0)).1, (tot L (0, 0, 0)).2.1, (tot L (0, 0, 0)).2.2) := rfl
  generalize (tot L (0, 0, 0)).1 = p1 at *
  generalize (tot L (0, 0, 0)).2.1 = p2 at *
  generalize (tot L (0, 0, 0)).2.2 = p3 at *
  generalize (tot M (0, 0, 0)).1 = q1 at *
  generalize (tot M (0, 0, 0)).2.1 = q2 at *
  generalize (tot M (0, 0, 0)).2.2 = q3 at *
  have HL := Aside0.mk HL
  have RA := Aside0.mk ra
  have RB := Aside0.mk rb
  have NA := Aside0.mk hA
  have NB := Aside0.mk hB
  have HB := Aside0.mk (Below.refl w.heap.size w)
  clear ra rb hA hB
  go_enter Tryz.func3, Tryz.ntmps3
  go_wp2_with (first
    | (go_at_call 4; (with_reducible refine (LV _).out.mono ?_); rintro e w' ⟨rfl, hb⟩; replace HB := Aside0.mk (HB.out.trans (hb.mono HB.out.size)); clear hb)
    | (at_builtin; refine append_nodes _ rfl _ _ rfl w.heap.size (.slice none 0 0) [] rfl (World.ownsRow_nil _ _ _ _) A c L rfl NA.out (row_below HB.out RA.out) (by rw [List.length_nil]; omega) HB.out.size ?_; intro v1 w1 ho1 hg1; rw [List.nil_append] at ho1; replace HB := Aside0.mk (below_grown HB.out hg1 (fun k hk => by cases hk)))
    | (at_builtin; refine append_nodes _ rfl _ _ rfl w.heap.size v1 L rfl ho1 B d M rfl NB.out (row_below HB.out RB.out) (by omega) HB.out.size ?_; intro v2 w2 ho2 hg2; replace HB := Aside0.mk (below_grown HB.out hg2 (fun k hk => (ho1.lt k hk).1)); obtain ⟨C2, k2, rfl, hr2⟩ := own_row ho2; clear ho1 hg1 ho2 hg2)
    | (go_at_call 5; (with_reducible refine (CC _ _ _ hr2).out.mono ?_); rintro e w' ⟨rfl, hb⟩; replace HB := Aside0.mk (HB.out.trans (hb.mono HB.out.size)); clear hb hr2)
    | (go_at_call 5; (with_reducible refine (CA _ HB.out).out.mono ?_); rintro e w' ⟨rfl, hb⟩; replace HB := Aside0.mk (HB.out.trans (hb.mono HB.out.size)); clear hb)
    | (go_at_call 5; (with_reducible refine (CB _ HB.out).out.mono ?_); rintro e w' ⟨rfl, hb⟩; replace HB := Aside0.mk (HB.out.trans (hb.mono HB.out.size)); clear hb))
  go_loopg [14, 15, 16, 17] L.length (fun kq v14 v15 v16 v17 wx => ∃ (i : Nat) (z : Int × Int × Int), v14 = .int .i64 z.1 ∧ v15 = .int .i64 z.2.1 ∧ v16 = .int .i64 z.2.2 ∧ v17 = .int .i64 (i : Int) ∧ i ≤ L.length ∧ L.length ≤ i + kq ∧ Aside0 (tot (L.drop i) z = (p1, p2, p3)) ∧ Aside0 (Below w.heap.size w wx))
  case atStart => exact ⟨0, (0, 0, 0), rfl, rfl, rfl, rfl, Nat.zero_le _, by omega, HL, HB⟩
  case round =>
    obtain ⟨i, ⟨z1, z2, z3⟩, rfl, rfl, rfl, rfl, hi, hfu, HT, HB⟩ := hrel
    by_cases hlt : i < L.length
    · obtain ⟨k1, rfl⟩ : ∃ k1, gk = k1 + 1 := ⟨gk - 1, by omega⟩
      have hd : L.drop i = L[i] :: L.drop (i + 1) := List.drop_eq_getElem_cons hlt
      have hh := HT.out
      rw [hd] at hh
      have hh : tot (L.drop (i + 1)) (tally (z1, z2, z3) L[i]) = (p1, p2, p3) := hh
      clear HT hd
      have hltI : decide ((i : Int) < (L.length : Int)) = true := decide_eq_true (by omega)
      have r1 : 0 ≤ (i : Int) := by omega
      have r2 : (i : Int) < (L.length : Int) := by omega
      obtain ⟨b, o, rfl, hcell⟩ := row_below HB.out RA.out i _ (List.getElem?_eq_getElem hlt)
      have x1 : wr.cell? ⟨b, o + i * 5 + 1, none⟩ = some (.int .i64 L[i].kind) := hcell 1 _ rfl
      have x3 : wr.cell? ⟨b, o + i * 5 + 3, none⟩ = some (.string L[i].data) := hcell 3 _ rfl
      clear hcell
      have HH := Aside0.mk hh
      clear hh
      generalize L[i] = X at *
      obtain ⟨nid, nkind, nlinks, ndata, nA, nl, nc⟩ := X
      simp only at x1 x3
      have hwr : wrap64 ((i : Int) + 1) = ((i + 1 : Nat) : Int) := by
        simp only [wrap64]
        omega
      replace r1 := eq_true r1
      replace r2 := eq_true r2
      by_cases h2 : nkind = 2
      · subst h2
        go_wp2
        go_roundg k1
        case measure => omega
        case rel => exact ⟨i + 1, (wrap64 (z1 + 1), z2, z3), rfl, rfl, rfl, by first | rfl | (rw [hwr]; done), by omega, by omega, ⟨by have := HH.out; simpa [tally] using this⟩, HB⟩
      · by_cases h1 : nkind = 1
        · subst h1
          go_wp2
          go_roundg k1
          case measure => omega
          case rel => exact ⟨i + 1, (z1, wrap64 (z2 + 1), wrap64 (z3 + (ndata.size : Int))), rfl, rfl, rfl, by first | rfl | (rw [hwr]; done), by omega, by omega, ⟨by have := HH.out; simpa [tally] using this⟩, HB⟩
        · have b2 : (nkind == 2) = false := beq_eq_false_iff_ne.2 h2
          have b1 : (nkind == 1) = false := beq_eq_false_iff_ne.2 h1
          go_wp2
          go_roundg k1
          case measure => omega
          case rel => exact ⟨i + 1, (z1, z2, z3), rfl, rfl, rfl, by first | rfl | (rw [hwr]; done), by omega, by omega, ⟨by have := HH.out; simpa [tally, h1, h2] using this⟩, HB⟩
    · have hltI : decide ((i : Int) < (L.length : Int)) = false := decide_eq_false (by omega)
      have hh := HT.out
      rw [List.drop_eq_nil_of_le (by omega)] at hh
      have hh : (z1, z2, z3) = (p1, p2, p3) := hh
      simp only [Prod.mk.injEq] at hh
      obtain ⟨rfl, rfl, rfl⟩ := hh
      clear HT
      go_wp2
      go_ret
      exact ⟨by first | rfl | (simp; done), HB.out⟩
end Go.Proofs.YtgeckikdpipabaaGreatDoor.Count
