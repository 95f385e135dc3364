/- What glob.match, Match and Right do at any parts, pattern and name. Conditions: as the theorems state them. -/
import Derived.Test.YtefomcoimbnalaaDoorGlE
namespace Go.Proofs.YtefomcoimbnalaaDoor.Gw
open Go Go.RowKit Go.Gl Go.Proofs.YtefomcoimbnalaaDoor.Plain
set_option maxRecDepth 100000
set_option maxHeartbeats 16000000
/-- how many rounds are left, at most -/
def mu (a b c : Nat) : Nat := (a * 1001 + b) * 1001 + c
theorem mu_a {a a' b b' c c' : Nat} (h : a' < a) (hb : b' ≤ 1000) (hc : c' ≤ 1000) : mu a' b' c' < mu a b c := by unfold mu; omega
theorem mu_b {a b b' c c' : Nat} (h : b' < b) (hc : c' ≤ 1000) : mu a b' c' < mu a b c := by unfold mu; omega
theorem mu_c {a b c c' : Nat} (h : c' < c) : mu a b c' < mu a b c := by unfold mu; omega
theorem srow_drop {w : World} {b o : Nat} {l : List ByteArray} (h : SRow w (some ⟨b, o, none⟩) l) (n : Nat) : SRow w (some ⟨b, o + n, none⟩) (l.drop n) := by
  intro j x hj
  rw [List.getElem?_drop] at hj
  obtain ⟨b', o', e, hc⟩ := h _ x hj
  cases e
  exact ⟨b, o + n, rfl, by rw [← hc, Nat.add_assoc]⟩
theorem s_drew {u w : World} {B : Nat} {a : Addr} {v : Value} (h : u.cell? a = some v ∧ Below B w u) : u.drew.cell? a = some v ∧ Below B w u.drew := ⟨h.1, below_drew h.2⟩
theorem s_below {u u2 w : World} {a : Addr} {v : Value} (hb : Below u.heap.size u u2) (h : u.cell? a = some v ∧ Below w.heap.size w u) : u2.cell? a = some v ∧ Below w.heap.size w u2 := ⟨cell_below hb h.1, h.2.trans (hb.mono h.2.size)⟩
theorem match_calls (A : Option Addr) (c0 : Nat) (L : List ByteArray) (n : ByteArray) (w : World) (hA : A = none → c0 = 0) (hc0 : L.length ≤ c0) (hL : L.length ≤ 1000) (hn : n.size ≤ 1000) (hg : ∀ p ∈ L, Fit p) (hr : SRow w A L) :
    Calls Tryd.prog 16 #[.slice A L.length c0, .string n] w fun e w' => e = .returned (.bool (T (M stB onB L n.data.toList))) ∧ Below w.heap.size w w' := by
  generalize hR : T (M stB onB L n.data.toList) = R
  have HRr := Aside0.mk hr
  have hnl : n.data.toList.length = n.size := (sz n).symm
  clear hr
  go_enter Tryd.func16, Tryd.ntmps16
  go_wp2
  go_loopg [5, 6, 7, 8] (mu (L.length + 1) 1000 1000) (fun kq v5 v6 v7 v8 wx => ∃ (i k : Nat) (s : Int) (f : Nat), v5 = .int .i64 (i : Int) ∧ v6 = .int .i64 (k : Int) ∧ v7 = .int .i64 s ∧ v8 = .int .i64 (f : Int) ∧ mu (L.length - (s + 1).toNat) (n.size - f) (n.size - k) ≤ kq ∧ -1 ≤ s ∧ Inv stB onB L n.data.toList i k s f ∧ Aside0 (Below w.heap.size w wx))
  case atStart =>
    refine ⟨0, 0, -1, 0, rfl, rfl, rfl, rfl, ?_, by decide, Inv.start, ⟨Below.refl _ w⟩⟩
    show mu (L.length - 0) (n.size - 0) (n.size - 0) ≤ _
    unfold mu; omega
  case round =>
    obtain ⟨i, k, s, f, rfl, rfl, rfl, rfl, hmu, hs, hI, HB⟩ := hrel
    have hi := hI.1
    have HMU := Aside0.mk hmu
    have hk : k ≤ n.size := by rw [← hnl]; exact hI.2.1
    by_cases hkn : k < n.size
    · have hkl : k < n.data.toList.length := by rw [hnl]; exact hkn
      have gn : n.data.toList[k] = n[k] := by
        have := at_list n k hkn
        rw [List.getElem?_eq_getElem hkl] at this
        exact Option.some.inj this
      have dk : decide ((k : Int) < (n.size : Int)) = true := decide_eq_true (by omega)
      have k0 : 0 ≤ (k : Int) := by omega
      have k1 : (k : Int) < (n.size : Int) := by omega
      have wk : wrap64 ((k : Int) + 1) = ((k + 1 : Nat) : Int) := by simp only [wrap64]; omega
      have wi : wrap64 ((i : Int) + 1) = ((i + 1 : Nat) : Int) := by simp only [wrap64]; omega
      -- when neither a star nor a part fits here
      have back : (∀ hi : i < L.length, stB L[i] = false ∧ onB L[i] n.data.toList[k] = false) → (s = -1 ∧ R = false) ∨ ∃ t : Nat, s = (t : Int) ∧ t < 1000 ∧ f < 1000 ∧ Inv stB onB L n.data.toList (t + 1) (f + 1) (t : Int) (f + 1) ∧ mu (L.length - ((t : Int) + 1).toNat) (n.size - (f + 1)) (n.size - (f + 1)) < mu (L.length - (s + 1).toNat) (n.size - f) (n.size - k) := by
        intro hm
        by_cases h0 : 0 ≤ s
        · obtain ⟨t, rfl⟩ := Int.eq_ofNat_of_zero_le h0
          obtain ⟨hJ, hti, hfk⟩ := hI.back hkl hm
          exact Or.inr ⟨t, rfl, by omega, by omega, hJ, mu_b (by omega) (by omega)⟩
        · obtain rfl : s = -1 := by omega
          exact Or.inl ⟨rfl, by rw [← hR, T_neg (hI.fail hkl hm)]⟩
      obtain ⟨q, rfl⟩ : ∃ q, gk = q + 1 := by
        refine ⟨gk - 1, ?_⟩
        have : 0 < mu (L.length - (s + 1).toNat) (n.size - f) (n.size - k) := by unfold mu; omega
        omega
      by_cases hil : i < L.length
      · have di : decide ((i : Int) < (L.length : Int)) = true := decide_eq_true (by omega)
        have i0 : 0 ≤ (i : Int) := by omega
        have i1 : (i : Int) < (L.length : Int) := by omega
        obtain ⟨b, o, rfl, hx⟩ := srow_below HB.out HRr.out i _ (List.getElem?_eq_getElem hil)
        cases hst : stB L[i] with
        | true =>
          have hsi : (s + 1).toNat ≤ i := by rcases hI.2.2 with ⟨h, _⟩ | ⟨t, h, hti, _⟩ <;> omega
          have hJ := hI.star hil hst
          have hlt : mu (L.length - ((i : Int) + 1).toNat) (n.size - k) (n.size - k) < mu (L.length - (s + 1).toNat) (n.size - f) (n.size - k) := mu_a (by omega) (by omega) (by omega)
          have e0 : (L[i].toList == ([42] : List UInt8)) = true := by rw [dl]; exact hst
          have HJ := Aside0.mk hJ
          generalize L[i] = X at *
          have HLT := Aside0.mk hlt
          clear hJ hI back hst hsi gn hkl hlt hmu
          replace i0 := eq_true i0
          replace i1 := eq_true i1
          go_wp2
          go_roundg q
          case measure => omega
          case rel => exact ⟨i + 1, k, (i : Int), k, by first | rfl | (rw [wi]; done), rfl, rfl, rfl, by have := HLT.out; have := HMU.out; omega, by omega, HJ.out, HB⟩
        | false =>
          have e0 : (L[i].toList == ([42] : List UInt8)) = false := by rw [dl]; exact hst
          have hfit := hg _ (List.getElem_mem hil)
          cases ho : onB L[i] n.data.toList[k] with
          | true =>
            have hJ := hI.byte hil hkl hst ho
            have hlt : mu (L.length - (s + 1).toNat) (n.size - f) (n.size - (k + 1)) < mu (L.length - (s + 1).toNat) (n.size - f) (n.size - k) := mu_c (by omega)
            have CO := fun W : World => Aside0.mk (one_calls L[i] n[k] hfit.1 hfit.2.1 hfit.2.2 W)
            rw [show onS L[i].data.toList n[k] = true by rw [← gn]; exact ho] at CO
            have HJ := Aside0.mk hJ
            generalize L[i] = X at *
            have HLT := Aside0.mk hlt
            clear hJ hI back hst ho gn hfit hlt hmu
            replace i0 := eq_true i0
            replace i1 := eq_true i1
            replace k0 := eq_true k0
            replace k1 := eq_true k1
            have HS : wr.cell? ⟨b, o + i, none⟩ = some (.string X) ∧ Below w.heap.size w wr := ⟨hx, HB.out⟩
            go_wp2
            go_region_held3 (fun u => u.cell? ⟨b, o + i, none⟩ = some (.string X) ∧ Below w.heap.size w u) (first | exact s_drew (by assumption) | exact s_below (by assumption) (by assumption))
              (first
                | (go_at_call 27; (with_reducible refine (CO _).out.mono ?_); rintro e w2 ⟨rfl, hb⟩))
            rename_i hS2
            have HB2 := Aside0.mk hS2.2
            clear hS2 HS hx
            go_wp2
            go_roundg q
            case measure => omega
            case rel => exact ⟨i + 1, k + 1, s, f, by first | rfl | (rw [wi]; done), by first | rfl | (rw [wk]; done), rfl, rfl, by have := HLT.out; have := HMU.out; omega, hs, HJ.out, HB2⟩
          | false =>
            rcases back (fun hi2 => ⟨hst, ho⟩) with ⟨rfl, hRf⟩ | ⟨t, rfl, ht, hf, hJ, hlt⟩
            · have HRF := Aside0.mk hRf
              clear hRf
              have CO := fun W : World => Aside0.mk (one_calls L[i] n[k] hfit.1 hfit.2.1 hfit.2.2 W)
              rw [show onS L[i].data.toList n[k] = false by rw [← gn]; exact ho] at CO
              generalize L[i] = X at *
              clear hI back hst ho gn hfit
              replace i0 := eq_true i0
              replace i1 := eq_true i1
              replace k0 := eq_true k0
              replace k1 := eq_true k1
              have d7 : decide ((-1 : Int) ≥ 0) = false := by decide
              have HS : wr.cell? ⟨b, o + i, none⟩ = some (.string X) ∧ Below w.heap.size w wr := ⟨hx, HB.out⟩
              go_wp2
              go_region_held3 (fun u => u.cell? ⟨b, o + i, none⟩ = some (.string X) ∧ Below w.heap.size w u) (first | exact s_drew (by assumption) | exact s_below (by assumption) (by assumption))
                (first
                  | (go_at_call 27; (with_reducible refine (CO _).out.mono ?_); rintro e w2 ⟨rfl, hb⟩))
              rename_i hS2
              have HB2 := Aside0.mk hS2.2
              clear hS2 HS hx
              go_wp2
              go_ret
              exact ⟨by rw [HRF.out]; rfl, HB2.out⟩
            · have HJ := Aside0.mk hJ
              have HLT := Aside0.mk hlt
              clear hJ hlt hmu
              have CO := fun W : World => Aside0.mk (one_calls L[i] n[k] hfit.1 hfit.2.1 hfit.2.2 W)
              rw [show onS L[i].data.toList n[k] = false by rw [← gn]; exact ho] at CO
              generalize L[i] = X at *
              clear hI back hst ho gn hfit
              replace i0 := eq_true i0
              replace i1 := eq_true i1
              replace k0 := eq_true k0
              replace k1 := eq_true k1
              have d8 : decide ((t : Int) ≥ 0) = true := decide_eq_true (by omega)
              have wt : wrap64 ((t : Int) + 1) = ((t + 1 : Nat) : Int) := by simp only [wrap64]; omega
              have wf : wrap64 ((f : Int) + 1) = ((f + 1 : Nat) : Int) := by simp only [wrap64]; omega
              clear ht hf
              have HS : wr.cell? ⟨b, o + i, none⟩ = some (.string X) ∧ Below w.heap.size w wr := ⟨hx, HB.out⟩
              go_wp2
              go_region_held3 (fun u => u.cell? ⟨b, o + i, none⟩ = some (.string X) ∧ Below w.heap.size w u) (first | exact s_drew (by assumption) | exact s_below (by assumption) (by assumption))
                (first
                  | (go_at_call 27; (with_reducible refine (CO _).out.mono ?_); rintro e w2 ⟨rfl, hb⟩))
              rename_i hS2
              have HB2 := Aside0.mk hS2.2
              clear hS2 HS hx
              go_wp2
              go_roundg q
              case measure => omega
              case rel => exact ⟨t + 1, f + 1, (t : Int), f + 1, by first | rfl | (rw [wt]; done), by first | rfl | (rw [wf]; done), rfl, by first | rfl | (rw [wf]; done), by have := HLT.out; have := HMU.out; omega, by omega, HJ.out, HB2⟩
      · have di : decide ((i : Int) < (L.length : Int)) = false := decide_eq_false (by omega)
        rcases back (fun hi2 => ⟨absurd hi2 hil, absurd hi2 hil⟩) with ⟨rfl, hRf⟩ | ⟨t, rfl, ht, hf, hJ, hlt⟩
        · have HRF := Aside0.mk hRf
          clear hRf
          clear hI back gn
          replace k0 := eq_true k0
          replace k1 := eq_true k1
          have d7 : decide ((-1 : Int) ≥ 0) = false := by decide
          go_wp2
          go_region
          have HB2 := Aside0.mk (below_drew HB.out)
          go_wp2
          go_ret
          exact ⟨by rw [HRF.out]; rfl, HB2.out⟩
        · have HJ := Aside0.mk hJ
          have HLT := Aside0.mk hlt
          clear hJ hlt hmu
          clear hI back gn
          replace k0 := eq_true k0
          replace k1 := eq_true k1
          have d8 : decide ((t : Int) ≥ 0) = true := decide_eq_true (by omega)
          have wt : wrap64 ((t : Int) + 1) = ((t + 1 : Nat) : Int) := by simp only [wrap64]; omega
          have wf : wrap64 ((f : Int) + 1) = ((f + 1 : Nat) : Int) := by simp only [wrap64]; omega
          clear ht hf
          go_wp2
          go_region
          have HB2 := Aside0.mk (below_drew HB.out)
          go_wp2
          go_roundg q
          case measure => omega
          case rel => exact ⟨t + 1, f + 1, (t : Int), f + 1, by first | rfl | (rw [wt]; done), by first | rfl | (rw [wf]; done), rfl, by first | rfl | (rw [wf]; done), by have := HLT.out; have := HMU.out; omega, by omega, HJ.out, HB2⟩
    · obtain rfl : k = n.size := by omega
      have dk : decide ((n.size : Int) < (n.size : Int)) = false := decide_eq_false (by omega)
      have hM := (show Inv stB onB L n.data.toList i n.data.toList.length s f by rw [hnl]; exact hI).stop
      have hr : R = !(!((L.drop i).all stB)) := by
        rw [← hR, Bool.not_not, T_iff hM]
        cases (L.drop i).all stB with
        | true => exact T_pos rfl
        | false => exact T_neg (by decide)
      have HRR := Aside0.mk hr
      have HRs := srow_below HB.out HRr.out
      clear hr hM hI hmu hs hn hg hkn hR
      by_cases hil : i < L.length
      · obtain ⟨b, o, rfl, _⟩ : ∃ b o : Nat, A = some ⟨b, o, none⟩ ∧ True := by
          obtain ⟨b, o, e, _⟩ := HRs i _ (List.getElem?_eq_getElem hil)
          exact ⟨b, o, e, trivial⟩
        have CK := fun W : World => fun hb : Below wr.heap.size wr W => Aside0.mk (scontains_calls (some ⟨b, o + i, none⟩) (c0 - i) (L.drop i) W (by rw [List.length_drop]; omega) (srow_drop (srow_below hb HRs) i))
        rw [List.length_drop] at CK
        have g0 : ((0 : Int) ≤ (i : Int)) = True := eq_true (by omega)
        have g1 : ((i : Int) ≤ (L.length : Int)) = True := eq_true (by omega)
        have g2 : ((L.length : Int) ≤ (c0 : Int)) = True := eq_true (by omega)
        have g3 : ((i : Int) ≤ (c0 : Int)) = True := eq_true (by omega)
        have g4 : (c0 = i) = False := eq_false (by omega)
        generalize (L.drop i).all stB = r at *
        clear HRs hil hi hk
        go_wp2_with (go_at_call 22; (with_reducible refine (CK _ (Below.refl _ _)).out.mono ?_); rintro e w2 ⟨rfl, hb⟩)
        go_ret
        exact ⟨by rw [HRR.out, Bool.not_not]; rfl, HB.out.trans (hb.mono HB.out.size)⟩
      · obtain rfl : i = L.length := by omega
        rw [List.drop_length] at HRR
        have CK : ∀ (B : Option Addr) (c : Nat) (W : World), Aside0 (Calls Tryd.prog 22 #[.slice B 0 c, .func (.func 28) #[] #[]] W fun e w' => e = .returned (.bool false) ∧ Below W.heap.size W w') := fun B c W => ⟨scontains_calls B c [] W (by simp) (fun j x hj => by simp at hj)⟩
        have g0 : ((0 : Int) ≤ (L.length : Int)) = True := eq_true (by omega)
        have g2 : ((L.length : Int) ≤ (c0 : Int)) = True := eq_true (by omega)
        clear hil hi hk HRs
        cases A with
        | none =>
          obtain rfl := hA rfl
          have h0 : L.length = 0 := by omega
          rw [h0] at *
          go_wp2_with (go_at_call 22; (with_reducible refine (CK _ _ _).out.mono ?_); rintro e w2 ⟨rfl, hb⟩)
          go_ret
          exact ⟨by rw [HRR.out]; rfl, HB.out.trans (hb.mono HB.out.size)⟩
        | some a =>
          by_cases hcc : c0 = L.length
          · subst hcc
            go_wp2_with (go_at_call 22; (with_reducible refine (CK _ _ _).out.mono ?_); rintro e w2 ⟨rfl, hb⟩)
            go_ret
            exact ⟨by rw [HRR.out]; rfl, HB.out.trans (hb.mono HB.out.size)⟩
          · have g4 : (c0 = L.length) = False := eq_false hcc
            go_wp2_with (go_at_call 22; (with_reducible refine (CK _ _ _).out.mono ?_); rintro e w2 ⟨rfl, hb⟩)
            go_ret
            exact ⟨by rw [HRR.out]; rfl, HB.out.trans (hb.mono HB.out.size)⟩
theorem cut_fit {l a b : List UInt8} (hl : l.length ≤ 1000) (h : cutS l = some (a, b)) : a ≠ [] ∧ a.length ≤ 1000 ∧ (a.head? = some 91 → 2 ≤ a.length) ∧ b.length ≤ 1000 := by
  obtain ⟨h1, h2, h3⟩ := cutS_lt h
  have h4 := congrArg List.length h2
  rw [List.length_append] at h4
  refine ⟨h3, by omega, fun hh => ?_, by omega⟩
  cases l with
  | nil => cases h
  | cons x t =>
    unfold cutS at h
    dsimp only at h
    by_cases e1 : x = 92
    · rw [if_pos e1] at h
      cases t with
      | nil => cases h
      | cons y r => cases h; simp at hh; rw [hh] at e1; cases e1
    · rw [if_neg e1] at h
      by_cases e2 : x = 91
      · rw [if_pos e2] at h
        by_cases e3 : (x :: t).length < skip t
        · rw [if_pos e3] at h; cases h
        · rw [if_neg e3] at h
          by_cases e4 : Lib.indexByte ((x :: t).drop (skip t)) 93 < 0
          · rw [if_pos e4] at h; cases h
          · rw [if_neg e4] at h
            obtain rfl := (Prod.mk.inj (Option.some.inj h)).1
            have hb := idx_le ((x :: t).drop (skip t)) 93
            rw [List.length_drop] at hb
            rw [List.length_take]
            have : 2 ≤ skip t := by unfold skip; split <;> omega
            omega
      · rw [if_neg e2] at h
        obtain rfl := (Prod.mk.inj (Option.some.inj h)).1
        simp at hh
        exact absurd hh e2
theorem parts_fit : ∀ (n : Nat) (l : List UInt8), l.length ≤ n → l.length ≤ 1000 → ∀ L, partsS l = some L → ∀ p ∈ L, p ≠ [] ∧ p.length ≤ 1000 ∧ (p.head? = some 91 → 2 ≤ p.length)
  | 0, l, h, _, L, hp => by
    have : l = [] := List.eq_nil_of_length_eq_zero (by omega)
    subst this
    rw [partsS_nil] at hp
    cases hp
    simp
  | n + 1, l, h, h2, L, hp => by
    by_cases hl : l = []
    · subst hl
      rw [partsS_nil] at hp
      cases hp
      simp
    · rw [partsS_cut hl] at hp
      cases hc : cutS l with
      | none => rw [hc] at hp; cases hp
      | some x =>
        obtain ⟨a, b⟩ := x
        rw [hc] at hp
        simp only [Option.bind_some] at hp
        obtain ⟨M, hM, rfl⟩ := Option.map_eq_some_iff.1 hp
        have hf := cut_fit h2 hc
        have hlt := (cutS_lt hc).1
        intro p hpm
        rcases List.mem_cons.1 hpm with rfl | hpm
        · exact ⟨hf.1, hf.2.1, hf.2.2.1⟩
        · exact parts_fit n b (by omega) hf.2.2.2 M hM p hpm
theorem parts_len : ∀ (n : Nat) (l : List UInt8), l.length ≤ n → ∀ L, partsS l = some L → L.length ≤ l.length
  | 0, l, h, L, hp => by
    have : l = [] := List.eq_nil_of_length_eq_zero (by omega)
    subst this
    rw [partsS_nil] at hp
    cases hp
    simp
  | n + 1, l, h, L, hp => by
    by_cases hl : l = []
    · subst hl
      rw [partsS_nil] at hp
      cases hp
      simp
    · rw [partsS_cut hl] at hp
      cases hc : cutS l with
      | none => rw [hc] at hp; cases hp
      | some x =>
        obtain ⟨a, b⟩ := x
        rw [hc] at hp
        simp only [Option.bind_some] at hp
        obtain ⟨M, hM, rfl⟩ := Option.map_eq_some_iff.1 hp
        have hlt := (cutS_lt hc).1
        have := parts_len n b (by omega) M hM
        simp only [List.length_cons]
        omega
theorem right_calls (x : ByteArray) (hs : x.size ≤ 1000) (w : World) : Calls Tryd.prog 9 #[.string x] w fun e w' => e = .returned (.bool (partsS x.data.toList).isSome) ∧ Below w.heap.size w w' := by
  have C := Aside0.mk (parts_calls x hs w)
  cases hp : partsS x.data.toList with
  | none =>
    rw [hp] at C
    go_enter Tryd.func9, Tryd.ntmps9
    go_wp2_with (go_at_call 15; (with_reducible refine C.out.mono ?_); rintro e w' ⟨hq, hb⟩; obtain rfl := hq)
    go_ret
    exact ⟨rfl, hb⟩
  | some l =>
    rw [hp] at C
    go_enter Tryd.func9, Tryd.ntmps9
    go_wp2_with (go_at_call 15; (with_reducible refine C.out.mono ?_); rintro e w' ⟨hq, hb⟩; obtain ⟨A, c, L, hm, rfl, hr, hle, _⟩ := hq)
    go_ret
    exact ⟨rfl, hb⟩
/-- does a pattern stand for a name? -/
noncomputable def globS (p n : List UInt8) : Bool := match partsS p with
  | none => false
  | some L => T (M stS onS L n)
theorem M_data : ∀ (L : List ByteArray) (n : List UInt8), M stB onB L n ↔ M stS onS (L.map (·.data.toList)) n
  | [], n => Iff.rfl
  | p :: L, n => by
    show (if stB p = true then _ else _) ↔ (if stS p.data.toList = true then _ else _)
    have h : stB p = stS p.data.toList := rfl
    cases hs : stS p.data.toList with
    | true =>
      rw [h, hs, if_pos rfl, if_pos rfl]
      exact exists_congr fun j => and_congr_right fun _ => M_data L _
    | false =>
      rw [h, hs, if_neg (by decide), if_neg (by decide)]
      exact exists_congr fun c => exists_congr fun cs => and_congr_right fun _ => and_congr_right fun _ => M_data L _
theorem Match_calls (x n : ByteArray) (hs : x.size ≤ 1000) (hn : n.size ≤ 1000) (w : World) : Calls Tryd.prog 10 #[.string x, .string n] w fun e w' => e = .returned (.bool (globS x.data.toList n.data.toList)) ∧ Below w.heap.size w w' := by
  have C := Aside0.mk (parts_calls x hs w)
  have hl : x.data.toList.length ≤ 1000 := by rw [← sz]; exact hs
  unfold globS
  cases hp : partsS x.data.toList with
  | none =>
    rw [hp] at C
    go_enter Tryd.func10, Tryd.ntmps10
    go_wp2_with (go_at_call 15; (with_reducible refine C.out.mono ?_); rintro e w' ⟨hq, hb⟩; obtain rfl := hq)
    go_ret
    exact ⟨rfl, hb⟩
  | some l =>
    have hfit := parts_fit _ _ (Nat.le_refl _) hl l hp
    have hlen := parts_len _ _ (Nat.le_refl _) l hp
    have C2 : Aside0 (Calls Tryd.prog 15 #[.string x] w fun e w' => (∃ (A : Option Addr) (c : Nat) (L : List ByteArray), e = .returned (.tuple #[.slice A L.length c, .bool true]) ∧ Aside0 (∀ W : World, Below w'.heap.size w' W → Calls Tryd.prog 16 #[.slice A L.length c, .string n] W fun e w' => e = .returned (.bool (T (M stS onS l n.data.toList))) ∧ Below W.heap.size W w')) ∧ Below w.heap.size w w') := ⟨C.out.mono fun e w' ⟨hq, hb⟩ => by
      rw [hp] at hq
      obtain ⟨A, c, L, hm, he, hr, hle, hA⟩ := hq
      refine ⟨⟨A, c, L, he, ⟨fun W hbW => ?_⟩⟩, hb⟩
      rw [← T_iff (show M stB onB L n.data.toList ↔ M stS onS l n.data.toList by rw [M_data, hm])]
      refine match_calls A c L n W hA hle (by have := congrArg List.length hm; rw [List.length_map] at this; omega) hn ?_ (srow_below hbW hr)
      · intro p hpm
        have := hfit p.data.toList (by rw [← hm]; exact List.mem_map_of_mem hpm)
        exact ⟨by rw [sz]; exact List.length_pos_iff.2 this.1, by rw [sz]; exact this.2.1, by rw [sz]; exact this.2.2⟩⟩
    clear C hfit hlen hp hl
    go_enter Tryd.func10, Tryd.ntmps10
    go_wp2_with (first
      | (go_at_call 15; (with_reducible refine C2.out.mono ?_); rintro e w' ⟨⟨A, c, L, rfl, CM⟩, hb⟩)
      | (go_at_call 16; (with_reducible refine (CM.out _ (Below.refl _ _)).mono ?_); rintro e w2 ⟨rfl, hb2⟩))
    go_ret
    exact ⟨rfl, hb.trans (hb2.mono hb.size)⟩
end Go.Proofs.YtefomcoimbnalaaDoor.Gw
