/- A runner of programs for the kernel, and that what it tells is so: part 3. It says nothing of one program. Conditions stand with each theorem. -/
import Derived.Test.YtdomphkodeamgaaGreatDoorVintB
import Derived.Laws.StructEq
import Derived.Below
import Derived.Lib.SlKeysI
import Derived.Maps.Own
import Derived.Laws.AppendOwn
import Derived.Lib.TrimByte
import Derived.Lib.Repeat
import Derived.Lib.Bytealg
import Derived.ChangeKeysEq
import Derived.Lib.MakeNoZero
namespace Go.Vint
variable {P : Program} {E : Env} {φ : Phi} {D : Nat → Prop} {w : World} {h h' : H} {v : V} {ih : Ih}

/-! ## Structs of plain cells, compared -/
def fkOf : Option TypeDesc → Option FK
  | some .bool => some .bool
  | some (.int _) => some .int
  | some .string => some .str
  | _ => none
def flatFields (P : Program) : Nat → List Field → Option (List FK)
  | _, [] => some []
  | i, f :: fs => if f.offset = i ∧ f.name ≠ "_" then (match fkOf (P.underlying f.type) with
    | none => none
    | some k => (flatFields P (i + 1) fs).map fun r => k :: r) else none
def flatOf (P : Program) (t : TypeId) : List FK := match P.underlying t with
  | some (.struct fs) => if P.eqGuardType P.depth t = false ∧ P.stoodInHeld t = false then (flatFields P 0 fs.toList).getD [] else []
  | _ => []
theorem eqFields_flat (d : Nat) {a b : List V} {r : Bool} : ∀ (fs : List Field) (i : Nat) (ks : List FK), flatFields P i fs = some ks → flatB ks (a.drop i) (b.drop i) = some r →
    Runs P (Op.eqFields (d + 1) (concL φ a).toArray (concL φ b).toArray fs) w r w := by
  intro fs
  induction fs with
  | nil =>
    intro i ks hk hb
    cases hk
    cases ha : a.drop i with
    | nil =>
      cases hb' : b.drop i with
      | nil => rw [ha, hb'] at hb; cases hb; exact runs_pure _ _
      | cons _ _ => rw [ha, hb'] at hb; cases hb
    | cons _ _ => rw [ha] at hb; cases hb
  | cons f fs ih =>
    intro i ks hk hb
    unfold flatFields at hk
    split at hk
    · rename_i hc
      cases hfk : fkOf (P.underlying f.type) with
      | none => rw [hfk] at hk; cases hk
      | some k =>
        rw [hfk] at hk
        dsimp only at hk
        rw [Option.map_eq_some_iff] at hk
        obtain ⟨ks', hk', rfl⟩ := hk
        cases ha : a.drop i with
        | nil => rw [ha] at hb; cases hb
        | cons x a' =>
          cases hb' : b.drop i with
          | nil => rw [ha, hb'] at hb; cases hb
          | cons y b' =>
            rw [ha, hb'] at hb
            have hx : a[i]? = some x := by
              have := congrArg (fun l => l[0]?) ha
              simpa using this
            have hy : b[i]? = some y := by
              have := congrArg (fun l => l[0]?) hb'
              simpa using this
            have ha' : a' = a.drop (i + 1) := by
              have := congrArg (fun l => l.drop 1) ha
              simpa using this.symm
            have hb'' : b' = b.drop (i + 1) := by
              have := congrArg (fun l => l.drop 1) hb'
              simpa using this.symm
            have hund : ∃ ud, P.underlying f.type = some ud ∧ aggD ud = false := by
              cases hu : P.underlying f.type with
              | none => rw [hu] at hfk; cases hfk
              | some ud =>
                rw [hu] at hfk
                refine ⟨ud, rfl, ?_⟩
                cases ud <;> first | rfl | cases hfk
            obtain ⟨ud, hu, hagg⟩ := hund
            have hpart : ∀ {c : List V} {z : V}, c[i]? = some z → Runs P (part f.type (concL φ c).toArray f.offset) w (conc φ z) w := by
              intro c z hz
              unfold part
              refine runs_bind (runs_isAgg hu w) ?_
              rw [hagg]
              simp only [Bool.false_eq_true, if_false]
              have : (concL φ c).toArray[f.offset]? = some (conc φ z) := by
                rw [hc.1, concL_eq]; simp [hz]
              rw [this]
              exact runs_pure _ _
            unfold Op.eqFields
            rw [if_pos hc.2]
            refine runs_bind (hpart hx) ?_
            refine runs_bind (hpart hy) ?_
            have heq : ∀ q, flat1 k x y = some q → Runs P (Op.equalIn (d + 1) f.type (conc φ x) (conc φ y)) w q w := by
              intro q hq
              cases k with
              | bool =>
                have hu' : P.underlying f.type = some .bool := by
                  rw [hu] at hfk ⊢
                  cases ud <;> first | rfl | cases hfk
                cases x <;> cases y <;> first | (cases hq; done) | skip
                rename_i p q'
                cases hq
                simp only [conc]
                exact run_equalIn_bool' w d f.type _ _ hu'
              | int =>
                have hu' : ∃ k', P.underlying f.type = some (.int k') := by
                  rw [hu] at hfk ⊢
                  cases ud <;> first | exact ⟨_, rfl⟩ | cases hfk
                obtain ⟨k', hu'⟩ := hu'
                cases x <;> cases y <;> first | (cases hq; done) | skip
                rename_i k1 n1 k2 n2
                have hq : (if k1 = k2 then some (n1 == n2) else none) = some q := hq
                split at hq
                · rename_i hkk
                  cases hq
                  subst hkk
                  simp only [conc]
                  exact run_equalIn_int w d f.type _ k' _ _ hu'
                · cases hq
              | str =>
                have hu' : P.underlying f.type = some .string := by
                  rw [hu] at hfk ⊢
                  cases ud <;> first | rfl | cases hfk
                cases x <;> cases y <;> first | (cases hq; done) | skip
                rename_i s1 s2
                cases hq
                simp only [conc]
                have := run_equalIn_string w d f.type s1.val s2.val hu'
                rw [← beq_toListBytes] at this
                rw [← val_beq]
                exact this
            have hb2 : (match flat1 k x y with | none => none | some false => some false | some true => flatB ks' a' b') = some r := hb
            cases hf1 : flat1 k x y with
            | none => rw [hf1] at hb2; cases hb2
            | some q =>
              rw [hf1] at hb2
              refine runs_bind (heq q hf1) ?_
              cases q with
              | false => cases hb2; exact runs_pure _ _
              | true =>
                simp only [Bool.not_true, Bool.false_eq_true, if_false]
                subst ha' hb''
                exact ih (i + 1) ks' hk' hb2
    · cases hk
theorem flatOf_ok (t : TypeId) (h : flatOf P t ≠ []) : FlatOk P t (flatOf P t) := by
  unfold flatOf at h ⊢
  cases hu : P.underlying t with
  | none => rw [hu] at h; exact absurd rfl h
  | some d =>
    rw [hu] at h
    cases d with
    | struct fs =>
      dsimp only at h ⊢
      split at h
      · rename_i hc
        rw [if_pos hc]
        cases hf : flatFields P 0 fs.toList with
        | none => rw [hf] at h; exact absurd rfl h
        | some ks =>
          simp only [Option.getD_some]
          have hfo : P.fieldsOf t = fs := by unfold Program.fieldsOf; rw [hu]
          refine ⟨hc.1, fun a b r hb φ w => ?_⟩
          have := run_equalIn_struct (P := P) w 9999 t (concL φ a).toArray (concL φ b).toArray (by rw [hfo]; exact hu) hc.2
          show (Op.equalIn 10000 t _ _).run P w = _
          rw [this, hfo]
          exact eqFields_flat 9998 fs.toList 0 ks hf (by simpa using hb)
      · exact absurd rfl h
    | _ => exact absurd rfl h

/-! ## Functions of Go's library that have no body -/
noncomputable def hNoEscape (as : List V) (h : H) : Option (V × H) := match as with
  | [p] => some (p, h)
  | _ => none
theorem hNoEscape_ef {as : List V} (I : Inv P φ h w) (hf : fineL φ (· < h.next) as) (e : hNoEscape as h = some (v, h')) : Ef P φ h w (do pure (.value (← Extern.AbiNoEscape.same (concL φ as).toArray))) v h' := by
  match as, e with
  | [p], e =>
    cases e
    simp only [fineL] at hf
    refine Ef.val (φ' := φ) (w' := w) ?_ (Ext.refl _ _ _ I.mem.llt) I hf.1
    simp only [concL]
    exact runs_pure _ _
end Go.Vint
namespace Go.Vint
open Go.RowKit
noncomputable section
variable {P : Program} {E : Env} {φ φ' φ0 : Phi} {D : Nat → Prop} {w w' w0 : World} {h h' h0 : H} {v : V} {ih : Ih}

/-! ## Heaps, made plain; cut down to some blocks; held against one another -/
def seqE {β : Type} (e : V × V × Nat) (k : (V × V × Nat) → β) : β := Prod.casesOn e fun a e => Prod.casesOn e fun b n => seqV 6 a fun a => seqV 6 b fun b => seqNat n fun n => k (a, b, n)
def seqO {β : Type} (o : O) (k : O → β) : β := match o with
  | .cells l e g a b => seqA (seqV 6) l fun l => seqNat e fun e => seqB g fun g => seqNat a fun a => seqNat b fun b => k (.cells l e g a b)
  | .map es c => seqA seqE es fun es => seqNat c fun c => k (.map es c)
  | o => k o
def seqT {β : Type} (d : Nat) : T O → (T O → β) → β :=
  Nat.rec (motive := fun _ => T O → (T O → β) → β) (fun t k => match t with | .t v => seqO v fun v => k (.t v) | t => k t)
    (fun _ ih t k => match t with | .n a b c d => ih a fun a => ih b fun b => ih c fun c => ih d fun d => k (.n a b c d) | t => k t) d
def plain (r : R (V × H)) : R (V × H) := R.casesOn r (fun p => Prod.casesOn p fun v h => H.casesOn h fun t n => seqV 6 v fun v => seqT 9 t fun t => seqNat n fun n => .ok (v, ⟨t, n⟩)) fun w => .no w
theorem seqE_eq {β : Type} (e : V × V × Nat) (k : (V × V × Nat) → β) : seqE e k = k e := by
  obtain ⟨a, b, n⟩ := e
  show seqV 6 a (fun a => seqV 6 b fun b => seqNat n fun n => k (a, b, n)) = _
  rw [seqV_eq, seqV_eq, seqNat_eq]
theorem seqB_eq {β : Type} (b : Bool) (k : Bool → β) : seqB b k = k b := by cases b <;> rfl
theorem seqO_eq {β : Type} (o : O) (k : O → β) : seqO o k = k o := by
  cases o with
  | cells l e g a b =>
    show seqA (seqV 6) l (fun l => seqNat e fun e => seqB g fun g => seqNat a fun a => seqNat b fun b => k (.cells l e g a b)) = _
    rw [seqA_eq (seqV_eq 6), seqNat_eq, seqB_eq, seqNat_eq, seqNat_eq]
  | map es c =>
    show seqA seqE es (fun es => seqNat c fun c => k (.map es c)) = _
    rw [seqA_eq seqE_eq, seqNat_eq]
  | _ => rfl
theorem seqT_eq {β : Type} (d : Nat) : ∀ (t : T O) (k : T O → β), seqT d t k = k t := by
  induction d with
  | zero =>
    intro t k
    cases t with
    | t v => show seqO v (fun v => k (.t v)) = _; rw [seqO_eq]
    | _ => rfl
  | succ d ih =>
    intro t k
    cases t with
    | n a b c q =>
      show seqT d a (fun a => seqT d b fun b => seqT d c fun c => seqT d q fun q => k (.n a b c q)) = _
      rw [ih, ih, ih, ih]
    | _ => rfl
theorem plain_eq (r : R (V × H)) : plain r = r := by
  cases r with
  | ok p =>
    obtain ⟨v, t, n⟩ := p
    unfold plain
    dsimp only
    rw [seqV_eq, seqT_eq, seqNat_eq]
  | no w => rfl

def keepT (h : H) (l : List Nat) : T O → T O :=
  List.rec (motive := fun _ => T O → T O) (fun t => t) (fun b _ ih t => Option.casesOn (h.get b) (ih t) fun o => t.setK 9 b o ih) l
def keepL (l : List Nat) (h : H) : H := ⟨keepT h l .e, h.next⟩
theorem keepT_get (hb : ∀ b o, h.get b = some o → b < 262144) (l : List Nat) : ∀ t : T O, (∀ b o, t.get 9 b = some o → h.get b = some o) → ∀ b o, (keepT h l t).get 9 b = some o → h.get b = some o := by
  induction l with
  | nil => intro t ht; exact ht
  | cons c l ih =>
    intro t ht b o
    show ((Option.casesOn (h.get c) (keepT h l t) fun o => t.setK 9 c o (keepT h l) : T O)).get 9 b = some o → _
    cases hc : h.get c with
    | none => exact ih t ht b o
    | some x =>
      show (t.setK 9 c x (keepT h l)).get 9 b = some o → _
      rw [T.setK_eq]
      refine ih _ (fun b' o' he => ?_) b o
      rw [T.get_set 9 _ _ _ _ (show c < 4 ^ 9 from hb c x hc)] at he
      by_cases hbc : b' = c
      · subst hbc; rw [if_pos rfl] at he; cases he; exact hc
      · rw [if_neg hbc] at he; exact ht b' o' he
theorem keepL_get (hb : ∀ b o, h.get b = some o → b < 262144) (l : List Nat) (b : Nat) (o : O) (he : (keepL l h).get b = some o) : h.get b = some o :=
  keepT_get hb l .e (fun b o he => by rw [T.get_e 9 b] at he; cases he) b o he
/-- blocks are forgotten -/
theorem Inv.forget (I : Inv P φ h w) (s : ∀ b o, h'.get b = some o → h.get b = some o) (hn : h'.next = h.next) : Inv P φ h' w :=
  ⟨⟨fun b o ho => I.mem.rel b o (s b o ho), fun b o ho => by rw [hn]; exact I.mem.lt b o (s b o ho), by rw [hn]; exact I.mem.nx, fun b b' ⟨x, hx, hw⟩ ⟨y, hy, hd⟩ => I.mem.inj b b' ⟨x, s b x hx, hw⟩ ⟨y, s b' y hy, hd⟩⟩,
    fun b o ho => by rw [hn]; exact I.fine b o (s b o ho)⟩
theorem Ext.forget (X : Ext φ0 h0 w0 φ h w) (s : ∀ b o, h'.get b = some o → h.get b = some o) (hn : h'.next = h.next) : Ext φ0 h0 w0 φ h' w :=
  ⟨by rw [hn]; exact X.next, X.same, X.size, X.keep, fun b hb ⟨x, hx, hw⟩ => X.fresh b hb ⟨x, s b x hx, hw⟩, fun b hb ⟨x, hx, hw⟩ => X.wr b hb ⟨x, s b x hx, hw⟩, X.os, X.tape, X.output,
    fun b hb ⟨x, hx, hw⟩ => X.lv b hb ⟨x, s b x hx, hw⟩, fun b hb ⟨x, hx, hw⟩ => X.born b hb ⟨x, s b x hx, hw⟩⟩

def eqL (l m : List V) : Bool := List.rec (motive := fun _ => List V → Bool) (fun m => List.casesOn m true fun _ _ => false) (fun a _ ih m => List.casesOn m false fun b m => Bool.casesOn (eqVal 6 a b) false (ih m)) l m
def eqE (l m : List (V × V × Nat)) : Bool := List.rec (motive := fun _ => List (V × V × Nat) → Bool) (fun m => List.casesOn m true fun _ _ => false)
  (fun a _ ih m => List.casesOn m false fun b m => Bool.casesOn (and (eqVal 6 a.1 b.1) (and (eqVal 6 a.2.1 b.2.1) (Nat.beq a.2.2 b.2.2))) false (ih m)) l m
def eqO (a b : O) : Bool := match a with
  | .cells l e g x y => (match b with | .cells l' e' g' x' y' => and (Nat.beq e e') (and (Bool.casesOn g (not g') g') (and (Nat.beq x x') (and (Nat.beq y y') (eqL l l')))) | _ => false)
  | .map l c => (match b with | .map l' c' => and (Nat.beq c c') (eqE l l') | _ => false)
  | .dead => (match b with | .dead => true | _ => false)
  | _ => false
def eqT (d : Nat) : T O → T O → Bool :=
  Nat.rec (motive := fun _ => T O → T O → Bool)
    (fun a b => match a with
      | .t x => (match b with | .t y => eqO x y | _ => false)
      | .e => (match b with | .e => true | _ => false)
      | _ => false)
    (fun _ ih a b => match a with
      | .n a1 a2 a3 a4 => (match b with | .n b1 b2 b3 b4 => Bool.casesOn (ih a1 b1) false (Bool.casesOn (ih a2 b2) false (Bool.casesOn (ih a3 b3) false (ih a4 b4))) | _ => false)
      | .e => (match b with | .e => true | _ => false)
      | _ => false) d
def eqH (a b : H) : Bool := Bool.casesOn (Nat.beq a.next b.next) false (eqT 9 a.heap b.heap)
theorem eqL_eq (l : List V) : ∀ m, eqL l m = true → l = m := by
  induction l with
  | nil => intro m h; cases m with | nil => rfl | cons _ _ => cases h
  | cons a l ih =>
    intro m h
    cases m with
    | nil => cases h
    | cons b m =>
      have h : (Bool.casesOn (eqVal 6 a b) false (eqL l m) : Bool) = true := h
      cases hb : eqVal 6 a b with
      | false => rw [hb] at h; cases h
      | true => rw [hb] at h; rw [eqVal_eq 6 hb, ih m h]
theorem eqE_eq (l : List (V × V × Nat)) : ∀ m, eqE l m = true → l = m := by
  induction l with
  | nil => intro m h; cases m with | nil => rfl | cons _ _ => cases h
  | cons a l ih =>
    intro m h
    cases m with
    | nil => cases h
    | cons b m =>
      have h : (Bool.casesOn (and (eqVal 6 a.1 b.1) (and (eqVal 6 a.2.1 b.2.1) (Nat.beq a.2.2 b.2.2))) false (eqE l m) : Bool) = true := h
      cases hb : and (eqVal 6 a.1 b.1) (and (eqVal 6 a.2.1 b.2.1) (Nat.beq a.2.2 b.2.2)) with
      | false => rw [hb] at h; cases h
      | true =>
        rw [hb] at h
        have hlm := ih m h
        obtain ⟨h1, h2⟩ := and_ok hb
        obtain ⟨h2, h3⟩ := and_ok h2
        obtain ⟨a1, a2, a3⟩ := a
        obtain ⟨b1, b2, b3⟩ := b
        rw [hlm, show a1 = b1 from eqVal_eq 6 h1, show a2 = b2 from eqVal_eq 6 h2, show a3 = b3 from beq_eq h3]
theorem eqO_eq {a b : O} (h : eqO a b = true) : a = b := by
  cases a with
  | cells l e g x y =>
    cases b with
    | cells l' e' g' x' y' =>
      obtain ⟨h1, h2⟩ := and_ok h
      obtain ⟨h2, h3⟩ := and_ok h2
      obtain ⟨h3, h4⟩ := and_ok h3
      obtain ⟨h4, h5⟩ := and_ok h4
      have hg : g = g' := by cases g <;> cases g' <;> first | rfl | cases h2
      rw [beq_eq h1, hg, beq_eq h3, beq_eq h4, eqL_eq _ _ h5]
    | _ => cases h
  | map l c =>
    cases b with
    | map l' c' =>
      obtain ⟨h1, h2⟩ := and_ok h
      rw [beq_eq h1, eqE_eq _ _ h2]
    | _ => cases h
  | dead => cases b with | dead => rfl | _ => cases h
  | _ => cases h
theorem eqT_eq (d : Nat) : ∀ {a b : T O}, eqT d a b = true → a = b := by
  induction d with
  | zero =>
    intro a b h
    cases a with
    | t x => cases b with | t y => rw [eqO_eq (show eqO x y = true from h)] | _ => cases h
    | e => cases b with | e => rfl | _ => cases h
    | n => cases h
  | succ d ih =>
    intro a b h
    cases a with
    | n a1 a2 a3 a4 =>
      cases b with
      | n b1 b2 b3 b4 =>
        have h : (Bool.casesOn (eqT d a1 b1) false (Bool.casesOn (eqT d a2 b2) false (Bool.casesOn (eqT d a3 b3) false (eqT d a4 b4))) : Bool) = true := h
        cases h1 : eqT d a1 b1 with
        | false => rw [h1] at h; cases h
        | true =>
          rw [h1] at h
          have h : (Bool.casesOn (eqT d a2 b2) false (Bool.casesOn (eqT d a3 b3) false (eqT d a4 b4)) : Bool) = true := h
          cases h2 : eqT d a2 b2 with
          | false => rw [h2] at h; cases h
          | true =>
            rw [h2] at h
            have h : (Bool.casesOn (eqT d a3 b3) false (eqT d a4 b4) : Bool) = true := h
            cases h3 : eqT d a3 b3 with
            | false => rw [h3] at h; cases h
            | true => rw [h3] at h; rw [ih h1, ih h2, ih h3, ih h]
      | _ => cases h
    | e => cases b with | e => rfl | _ => cases h
    | t => cases h
theorem eqH_eq {a b : H} (h : eqH a b = true) : a = b := by
  obtain ⟨t, n⟩ := a
  obtain ⟨t', n'⟩ := b
  have h : (Bool.casesOn (Nat.beq n n') false (eqT 9 t t') : Bool) = true := h
  cases h1 : Nat.beq n n' with
  | false => rw [h1] at h; cases h
  | true => rw [h1] at h; rw [beq_eq h1, eqT_eq 9 h]

/-! ## Calls that are known -/
/-- at these arguments and this heap, the function comes to this value and this heap -/
def CallTo (P : Program) (f : FuncId) (as : List V) (h : H) (v : V) (h' : H) : Prop := ∀ φ w, Inv P φ h w → fineL φ (· < h.next) as → ∀ m fr cs (s : Sem Next), s.run P w = (callFunc f (concL φ as).toArray).run P w → Asks P m fr cs w s → Gives P φ h w m fr cs v h'
theorem callTo_run (K : EnvOk P E) (hm : P.follows .mixedOrders = true) {n : Nat} {f : FuncId} {c : Code × List ResultVar × Nat × Nat} (hb : E.body f = some c) {as : List V} {l : List Nat}
    (e : plain (R.bind (callBody E (run E n) c as h) fun r => .ok (r.1, keepL l r.2)) = .ok (v, h')) : CallTo P f as h v h' := by
  rw [plain_eq] at e
  obtain ⟨⟨v1, h1⟩, e1, e2⟩ := bind_ok e
  cases e2
  intro φ w I hfa m fr cs s hs a
  obtain ⟨c, rs, ms, lv⟩ := c
  obtain ⟨fn, b1, b2, b3, b4, b5⟩ := K.bodies f c rs ms lv hb
  have hst : step P m = .next (lone (Frame.enter P f (concL φ as).toArray .normal) (fr :: cs) w) := by
    refine a.enter f _ w (hs.trans ?_)
    have h2 : fn.name ≠ "runtime.NumGoroutine" := by simpa using b2
    simp [callFunc, b1, h2, b3]
  obtain ⟨φ', w', x1, x2, x3, x4⟩ := callBody_gives K.tys (sound_run K hm n) b1 b3 b4 b5 I hfa e1 hst
  have hs := keepL_get (fun b o hb => Nat.lt_of_lt_of_le (x2.mem.lt b o hb) x2.mem.nx) l
  exact ⟨φ', w', x1.forget hs rfl, x2.forget hs rfl, x3, x4⟩
/-- a table of known calls -/
structure Known where
  f : FuncId
  as : List V
  h : H
  v : V
  h' : H
def Known.ok (P : Program) (k : Known) : Prop := CallTo P k.f k.as k.h k.v k.h'
def lookup (l : List Known) (as : List V) (h : H) : Option (V × H) :=
  List.rec (motive := fun _ => Option (V × H)) none (fun k _ r => Bool.casesOn (and (eqL as k.as) (eqH h k.h)) r (some (k.v, k.h'))) l
theorem lookup_ok {f : FuncId} {as : List V} (l : List Known) (hl : ∀ k ∈ l, k.f = f ∧ k.ok P) (e : lookup l as h = some (v, h')) : CallTo P f as h v h' := by
  induction l with
  | nil => cases e
  | cons k l ih =>
    have e : (Bool.casesOn (and (eqL as k.as) (eqH h k.h)) (lookup l as h) (some (k.v, k.h')) : Option (V × H)) = some (v, h') := e
    cases hb : and (eqL as k.as) (eqH h k.h) with
    | false => rw [hb] at e; exact ih (fun k hk => hl k (List.mem_cons_of_mem _ hk)) e
    | true =>
      rw [hb] at e
      cases e
      obtain ⟨h1, h2⟩ := and_ok hb
      obtain ⟨h3, h4⟩ := hl k (List.mem_cons_self ..)
      rw [eqL_eq _ _ h1, eqH_eq h2, ← h3]
      exact h4
/-- hooks that tell the truth -/
def GoodHook (P : Program) (f : FuncId) (g : List V → H → Option (V × H)) : Prop := ∀ as h v h', g as h = some (v, h') → CallTo P f as h v h'
theorem hookOk_of {hk : FuncId → Option (List V → H → Option (V × H))} {ty : TypeId → Option TI} {b : FuncId → Option (Code × List ResultVar × Nat × Nat)} {vw : TypeId → Bool} {st : Bool} (h : ∀ f g, hk f = some g → GoodHook P f g) : HookOk P ⟨ty, b, hk, vw, st⟩ :=
  fun f g as hh v h' hf e φ w I hfa m fr cs s hs a => h f g hf as hh v h' e φ w I hfa m fr cs s hs a
theorem GoodHook.or {f : FuncId} {g g' : List V → H → Option (V × H)} (a : GoodHook P f g) (b : GoodHook P f g') : GoodHook P f fun as h => Option.casesOn (g as h) (g' as h) fun r => some r := by
  intro as h v h' e
  have e : (Option.casesOn (g as h) (g' as h) fun r => some r : Option (V × H)) = some (v, h') := e
  cases hg : g as h with
  | none => rw [hg] at e; exact b as h v h' e
  | some r => rw [hg] at e; cases e; exact a as h v h' hg

/-! ## Calls that the kit's contracts tell of -/
theorem Inv.below (I : Inv P φ h w) (hb : Below w.heap.size w w') : Ext φ h w φ h w' ∧ Inv P φ h w' := by
  refine ⟨⟨Nat.le_refl _, Phi.Same.refl _ _, hb.size, fun c hc _ => hb.block c hc, fun b hb hw => absurd (I.mem.wlt b hw) (by omega), fun _ _ hw => hw, hb.os, hb.tape, hb.output, fun _ _ hw => hw, fun b hb hw => absurd (I.mem.llt b hw) (by omega)⟩,
    ⟨⟨fun b o ho => ?_, I.mem.lt, I.mem.nx, I.mem.inj⟩, I.fine⟩⟩
  by_cases hd : o = .dead
  · subst hd; trivial
  · rw [hb.block _ (I.mem.inHeap ho hd)]; exact I.mem.rel b o ho
theorem gives_of_calls {f : FuncId} {as : List V} (hc : Calls P f (concL φ as).toArray w fun e w' => ∃ φ', e = .returned (conc φ' v) ∧ Ext φ h w φ' h' w' ∧ Inv P φ' h' w' ∧ fineV φ' (· < h'.next) v)
    (he : ∀ args w, (callFunc f args).run P w = .ok (.enter f args) w) {m : Machine} {fr : Frame} {cs : List Frame} {s : Sem Next} (hs : s.run P w = (callFunc f (concL φ as).toArray).run P w) (a : Asks P m fr cs w s) : Gives P φ h w m fr cs v h' := by
  obtain ⟨e, w', frL, ⟨φ', rfl, x1, x2, x3⟩, st, hl⟩ := hc (fr :: cs)
  exact ⟨φ', w', x1, x2, x3, Steps.head (a.enter f _ w (hs.trans (he _ _))) (Steps.trans st (.one (step_leave_returned hl.2)))⟩
/-- a call that leaves the blocks as they were, and hands back what holds none -/
theorem callTo_below {f : FuncId} {as : List V} (he : ∀ args w, (callFunc f args).run P w = .ok (.enter f args) w) (hv : ∀ φ D, fineV φ D v)
    (hc : ∀ φ w, Calls P f (concL φ as).toArray w fun e w' => e = .returned (conc φ v) ∧ Below w.heap.size w w') : CallTo P f as h v h := by
  intro φ w I hfa m fr cs s hs a
  refine gives_of_calls ((hc φ w).mono ?_) he hs a
  rintro e w' ⟨rfl, hb⟩
  obtain ⟨x1, x2⟩ := I.below hb
  exact ⟨φ, rfl, x1, x2, hv φ _⟩
end
end Go.Vint
namespace Go.Vint
open Go.RowKit
noncomputable section
variable {P : Program} {E : Env} {φ φ' φ0 : Phi} {D : Nat → Prop} {w w' w0 : World} {h h' h0 : H} {v : V} {ih : Ih}

/-! ## The keys of a map, in their order -/
def natKeys (es : List (V × V × Nat)) : Option (List Nat) :=
  List.rec (motive := fun _ => Option (List Nat)) (some []) (fun e _ r => match e.1 with
    | .int k n => Int.casesOn n (fun n => Bool.casesOn (and (sameK k .i64) (Nat.ble n 9223372036854775807)) none (Option.casesOn r none fun l => some (n :: l))) (fun _ => none)
    | _ => none) es
def births (es : List (V × V × Nat)) : List Nat := List.rec (motive := fun _ => List Nat) [] (fun e _ r => e.2.2 :: r) es
def incB (l : List Nat) : Bool := List.rec (motive := fun _ => Bool) true (fun n l r => and (List.casesOn l true fun m _ => Nat.ble (Nat.succ n) m) r) l
def belowB (c : Nat) (l : List Nat) : Bool := List.rec (motive := fun _ => Bool) true (fun n _ r => and (Nat.ble (Nat.succ n) c) r) l
def insN (n : Nat) (l : List Nat) : List Nat := List.rec (motive := fun _ => List Nat) [n] (fun m l r => Bool.casesOn (Nat.ble n m) (m :: r) (n :: m :: l)) l
def sortN (l : List Nat) : List Nat := List.rec (motive := fun _ => List Nat) [] (fun n _ r => insN n r) l
def intsV (l : List Nat) : List V := List.rec (motive := fun _ => List V) [] (fun n _ r => .int .i64 (.ofNat n) :: r) l
def mkRow (el : TypeId) (h : H) (l : List Nat) : Option (V × H) :=
  R.casesOn (motive := fun _ => Option (V × H)) (H.new h (.cells (intsV l) el true 0 0) fun b h => .ok ((.gs b 0 1 (lenL l)), h)) (fun r => some r) fun _ => none
def sortedOf (el : TypeId) (h : H) (es : List (V × V × Nat)) (clock : Nat) : Option (V × H) :=
  Option.casesOn (natKeys es) none fun ks =>
    Bool.casesOn (and (incB (sortN ks)) (and (incB (births es)) (and (belowB clock (births es)) (Nat.ble (lenL ks) 1000000)))) none
      (List.casesOn ks (some (.nils, h)) fun _ _ => mkRow el h (sortN ks))
def hSorted (g : FuncId) (el : TypeId) (as : List V) (h : H) : Option (V × H) := match as with
  | [.fn g' [] [.ptr b o]] => Bool.casesOn (and (Nat.beq g' g) (Nat.beq o 0)) none (Option.casesOn (h.get b) none fun x => match x with
    | .cells cs _ g _ fh => Bool.casesOn (and (not g) (Nat.ble fh 9223372036854775807)) none (List.casesOn cs none fun c _ => match c with
      | .map m => Option.casesOn (h.get m) none fun y => match y with
        | .map es clock => sortedOf el h es clock
        | _ => none
      | _ => none)
    | _ => none)
  | _ => none

theorem natKeys_ok (es : List (V × V × Nat)) : ∀ {ks : List Nat}, natKeys es = some ks → (∀ n ∈ ks, n ≤ 9223372036854775807) ∧ es.map (·.1) = ks.map fun n => V.int .i64 (.ofNat n) := by
  induction es with
  | nil => intro ks h; cases h; simp
  | cons e es ih =>
    intro ks h
    obtain ⟨k, x, b⟩ := e
    cases k with
    | int k n =>
      cases n with
      | ofNat n =>
        have h : (Bool.casesOn (and (sameK k .i64) (Nat.ble n 9223372036854775807)) none (Option.casesOn (natKeys es) none fun l => some (n :: l)) : Option (List Nat)) = some ks := h
        obtain ⟨h1, h2⟩ := bool_some h
        obtain ⟨h3, h4⟩ := and_ok h1
        obtain ⟨l, h5, h6⟩ := opt_some (x := natKeys es) h2
        cases h6
        obtain ⟨a1, a2⟩ := ih h5
        refine ⟨fun m hm => ?_, ?_⟩
        · rcases List.mem_cons.1 hm with rfl | hm
          · exact ble_le h4
          · exact a1 m hm
        · simp only [List.map_cons, a2]
          rw [sameK_eq h3]
      | negSucc n => cases h
    | _ => cases h
theorem births_eq (es : List (V × V × Nat)) : births es = es.map (·.2.2) := by
  induction es with
  | nil => rfl
  | cons e es ih => show e.2.2 :: births es = _; rw [ih]; rfl
theorem incB_ok (l : List Nat) (h : incB l = true) : l.Pairwise (· < ·) := by
  induction l with
  | nil => exact .nil
  | cons n l ih =>
    obtain ⟨h1, h2⟩ := and_ok h
    have hp := ih h2
    refine List.pairwise_cons.2 ⟨fun m hm => ?_, hp⟩
    cases l with
    | nil => cases hm
    | cons m' l' =>
      have h3 : n < m' := succ_ble h1
      rcases List.mem_cons.1 hm with rfl | hm
      · exact h3
      · exact Nat.lt_trans h3 (List.rel_of_pairwise_cons hp hm)
theorem belowB_ok (c : Nat) (l : List Nat) (h : belowB c l = true) : ∀ n ∈ l, n < c := by
  induction l with
  | nil => simp
  | cons n l ih =>
    obtain ⟨h1, h2⟩ := and_ok h
    intro m hm
    rcases List.mem_cons.1 hm with rfl | hm
    · exact succ_ble h1
    · exact ih h2 m hm
theorem insN_perm (n : Nat) (l : List Nat) : (insN n l).Perm (n :: l) := by
  induction l with
  | nil => exact .refl _
  | cons m l ih =>
    show (Bool.casesOn (Nat.ble n m) (m :: insN n l) (n :: m :: l) : List Nat).Perm _
    cases Nat.ble n m with
    | true => exact .refl _
    | false => exact (ih.cons m).trans (.swap n m l)
theorem sortN_perm (l : List Nat) : (sortN l).Perm l := by
  induction l with
  | nil => exact .refl _
  | cons n l ih => exact (insN_perm n _).trans (ih.cons n)
theorem intsV_eq (l : List Nat) : intsV l = l.map fun n => V.int .i64 (.ofNat n) := by
  induction l with
  | nil => rfl
  | cons n l ih => show _ :: intsV l = _; rw [ih]; rfl

theorem Inv.revealO {o : O} (I : Inv P φ h w) (hn : h.next < 262144) (hf : fineO φ (· < h.next) o) (hr : ORel P φ h.next o w.heap[φ.blk h.next]?)
    (hx : ∀ b, Live h b → φ.blk b ≠ φ.blk h.next) : Inv P φ (h.add o) w := by
  refine ⟨⟨?_, ?_, by show h.next + 1 ≤ 262144; omega, ?_⟩, ?_⟩
  · intro b x hx
    rw [H.get_add _ _ _ hn] at hx
    by_cases hb : b = h.next
    · subst hb
      rw [if_pos rfl] at hx
      cases hx
      exact hr
    · rw [if_neg hb] at hx; exact I.mem.rel b x hx
  · intro b x hx
    rw [H.get_add _ _ _ hn] at hx
    show b < h.next + 1
    by_cases hb : b = h.next
    · omega
    · rw [if_neg hb] at hx
      have := I.mem.lt b x hx; omega
  · rintro b b' ⟨x, hx1, hw⟩ ⟨y, hy, hd⟩ he
    rw [H.get_add _ _ _ hn] at hx1 hy
    by_cases hb : b = h.next
    · by_cases hb' : b' = h.next
      · omega
      · rw [if_neg hb'] at hy
        subst hb
        exact absurd he.symm (hx b' ⟨y, hy, hd⟩)
    · rw [if_neg hb] at hx1
      by_cases hb' : b' = h.next
      · subst hb'
        exact absurd he (hx b ⟨x, hx1, by intro e; subst e; cases hw⟩)
      · rw [if_neg hb'] at hy
        exact I.mem.inj b b' ⟨x, hx1, hw⟩ ⟨y, hy, hd⟩ he
  · intro b x hx
    rw [H.get_add _ _ _ hn] at hx
    have hD : ∀ a, a < h.next → a < (h.add o).next := fun a ha => by show a < h.next + 1; omega
    by_cases hb : b = h.next
    · rw [if_pos hb] at hx
      cases hx
      exact fineO_same (Phi.Same.refl _ φ) hD hf
    · rw [if_neg hb] at hx
      exact fineO_same (Phi.Same.refl _ φ) hD (I.fine b x hx)

/-- slices.Sorted of maps.Keys, as the kit tells it -/
def SortedTold (P : Program) (f g : FuncId) (kt : TypeId) : Prop := ∀ (Bm b nn : Nat) (D0 : DataW Unit) (R : Value → Option (DataW Unit × List MemPlace)) (w : World), Bm < w.heap.size → w.cell? ⟨Bm, 0, none⟩ = some (.map (some b)) →
  w.ownsMap P kt R b nn D0 → Maps.size D0 ≤ maxLen → Maps.size D0 * 8 ≤ 140737488355328 →
  Calls P f #[.func (.func g) #[] #[.pointer (some ⟨Bm, 0, none⟩)]] w fun e w' => ∃ (v : Value) (ss : List Int), e = .returned v ∧ ss.Perm (intKeys D0) ∧
    w'.ownsRow w.heap.size kt 1 v ss.length ((ss.mergeSort (fun x y => decide (x ≤ y))).map encZ) ∧ (v = .slice none 0 0 ↔ ss = []) ∧ Below w.heap.size w w'
theorem insert_perm {H : Type} (x : Lit × DataW H) (l : List (Lit × DataW H)) : (DataW.insert x l).Perm (x :: l) := by
  induction l with
  | nil => exact .refl _
  | cons y l ih =>
    unfold DataW.insert
    split
    · exact .refl _
    · exact (ih.cons y).trans (.swap x y l)
theorem foldr_perm {H : Type} (l : List (Lit × DataW H)) : (l.foldr DataW.insert []).Perm l := by
  induction l with
  | nil => exact .refl _
  | cons x l ih => exact (insert_perm x _).trans (ih.cons x)
theorem hSorted_good {f g : FuncId} {kt : TypeId} (hk : P.underlying kt = some (.int .i64)) (hi : ∃ i, P.info? kt = some i ∧ i.size = 1) (told : SortedTold P f g kt) (he : ∀ args w, (callFunc f args).run P w = .ok (.enter f args) w) : GoodHook P f (hSorted g kt) := by
  intro as h v h' e φ w I hfa m fr cs s hs a
  unfold hSorted at e
  split at e
  case h_2 => cases e
  rename_i g' b o
  obtain ⟨c1, e1⟩ := bool_some (x := and (Nat.beq g' g) (Nat.beq o 0)) e
  obtain ⟨c2, c3⟩ := and_ok c1
  have c2 := beq_eq c2
  have c3 := beq_eq c3
  subst c2 c3
  obtain ⟨x, hx, e2⟩ := opt_some (x := h.get b) e1
  cases x with
  | cells cl el gg fl fh =>
    obtain ⟨c4, e3⟩ := bool_some (x := and (not gg) (Nat.ble fh 9223372036854775807)) e2
    obtain ⟨c5, c6⟩ := and_ok c4
    have c5 : gg = false := by cases gg <;> first | rfl | cases c5
    subst c5
    have c6 : fh ≤ 9223372036854775807 := ble_le c6
    cases cl with
    | nil => cases e3
    | cons c cl =>
      cases c with
      | map mb =>
        obtain ⟨y, hy, e4⟩ := opt_some (x := h.get mb) e3
        cases y with
        | map es clock =>
          have e4 : sortedOf kt h es clock = some (v, h') := e4
          obtain ⟨ks, hks, e5⟩ := opt_some (x := natKeys es) e4
          obtain ⟨c7, e6⟩ := bool_some (x := and (incB (sortN ks)) (and (incB (births es)) (and (belowB clock (births es)) (Nat.ble (lenL ks) 1000000)))) e5
          obtain ⟨d1, d2⟩ := and_ok c7
          obtain ⟨d2, d3⟩ := and_ok d2
          obtain ⟨d3, d4⟩ := and_ok d3
          have d4 : ks.length ≤ 1000000 := by have := ble_le d4; rwa [lenL_eq] at this
          obtain ⟨k1, k2⟩ := natKeys_ok es hks
          obtain ⟨ccs, lo, hi', w1, w2, _, _, w5⟩ := I.mem.rel b _ hx
          obtain ⟨off0, _⟩ := w5 rfl (by show fh < far; unfold far; omega)
          obtain ⟨ces, m1, m2⟩ := I.mem.rel mb _ hy
          have hlen : es.length = ks.length := by have := congrArg List.length k2; simpa using this
          have hcsz : ces.size = ks.length := by rw [← Array.length_toList, m2, List.length_map, hlen]
          have hcell : w.cell? ⟨φ.blk b, 0, none⟩ = some (.map (some (φ.blk mb))) := by
            have := w2 0 (.map mb) rfl
            rw [off0] at this
            simp only [conc] at this
            simp [World.cell?, w1, this]
          let R : Value → Option (DataW Unit × List MemPlace) := fun _ => some (.nil, [])
          have hwf : ∀ n ∈ ks, (Lit.int .i64 (Int.ofNat n)).wf = true := by
            intro n hn
            have := k1 n hn
            simp [Lit.wf]
            have h0 : IntKind.i64.min ≤ 0 := by decide
            exact ⟨by omega, by omega⟩
          have hkey : ∀ n ∈ ks, keyOf P kt (.int .i64 (Int.ofNat n)) = some (.int .i64 (Int.ofNat n)) := by
            intro n hn
            have h2 : (Lit.int .i64 (n : Int)).wf = true := hwf n hn
            simp [keyOf, hk, mapKey, h2]
          have hrd : ∀ x ∈ es, ∃ n ∈ ks, x.1 = .int .i64 (Int.ofNat n) := by
            intro x hx
            have : x.1 ∈ es.map (·.1) := List.mem_map.2 ⟨x, hx, rfl⟩
            rw [k2, List.mem_map] at this
            obtain ⟨n, hn, he⟩ := this
            exact ⟨n, hn, he.symm⟩
          have hksn : ks.Nodup := (sortN_perm ks).nodup_iff.1 ((incB_ok _ d1).imp fun h => Nat.ne_of_lt h)
          have hkeys : ces.toList.map (·.key) = ks.map fun n => Value.int .i64 (Int.ofNat n) := by
            rw [m2, List.map_map]
            have : (fun x => x.key) ∘ concE φ = fun x : V × V × Nat => conc φ x.1 := rfl
            rw [this]
            have h3 := congrArg (List.map (conc φ)) k2
            rw [List.map_map, List.map_map] at h3
            refine h3.trans ?_
            apply List.map_congr_left
            intro n _
            simp [conc]
          have hown : w.ownsMap P kt R (φ.blk mb) ks.length (.map ((ces.toList.map (Go.WideElems.rg P kt R)).foldr DataW.insert [])) := by
            refine ⟨ces, clock, m1, ⟨?_, ⟨fun x hx => ?_, ?_, ?_⟩, fun x hx => ?_⟩, by omega, rfl⟩
            · rw [hcsz]; unfold maxLen; omega
            · rw [m2, List.mem_map] at hx
              obtain ⟨y, hy', rfl⟩ := hx
              exact belowB_ok _ _ d3 _ (by rw [births_eq]; exact List.mem_map.2 ⟨y, hy', rfl⟩)
            · have : ces.toList.map (·.born) = births es := by
                rw [births_eq, m2, List.map_map]; rfl
              rw [this]
              exact (incB_ok _ d2).imp fun h => Nat.ne_of_lt h
            · rw [hkeys]
              exact List.Pairwise.map _ (fun a b hab he => hab (by injection he with _ h; exact Int.ofNat.inj h)) hksn
            · rw [m2, List.mem_map] at hx
              obtain ⟨y, hy', rfl⟩ := hx
              obtain ⟨n, hn, he⟩ := hrd y hy'
              refine ⟨_, Go.WideElems.rd_mk (kl := .int .i64 (Int.ofNat n)) ?_ rfl⟩
              rw [he]
              simp only [conc]
              exact hkey n hn
          have hrg : (ces.toList.map (Go.WideElems.rg P kt R)).map (fun p => intOf p.1) = ks.map Int.ofNat := by
            have : ces.toList.map (fun x => intOf (Go.WideElems.rg P kt R x).1) = (ces.toList.map (·.key)).map fun k => intOf (((keyOf P kt k).map fun key => key).getD (.bool false)) := by
              rw [List.map_map]
              apply List.map_congr_left
              intro x hx
              rw [m2, List.mem_map] at hx
              obtain ⟨y, hy', rfl⟩ := hx
              obtain ⟨n, hn, he⟩ := hrd y hy'
              have hk1 : keyOf P kt (conc φ y.1) = some (.int .i64 (Int.ofNat n)) := by
                rw [he]
                simp only [conc]
                exact hkey n hn
              show intOf (Go.WideElems.rg P kt R ⟨conc φ y.1, conc φ y.2.1, y.2.2⟩).1 = intOf (((keyOf P kt (conc φ y.1)).map fun key => key).getD (.bool false))
              rw [Go.WideElems.rg_of (Go.WideElems.rd_mk hk1 rfl), hk1]
              rfl
            rw [List.map_map]
            show ces.toList.map (fun x => intOf (Go.WideElems.rg P kt R x).1) = _
            rw [this, hkeys, List.map_map]
            apply List.map_congr_left
            intro n hn
            simp only [Function.comp, hkey n hn]
            rfl
          have hperm : (intKeys (DataW.map ((ces.toList.map (Go.WideElems.rg P kt R)).foldr DataW.insert []))).Perm (ks.map Int.ofNat) := by
            rw [← hrg]
            exact (foldr_perm _).map _
          have hsize : Maps.size (DataW.map ((ces.toList.map (Go.WideElems.rg P kt R)).foldr DataW.insert [])) = ks.length := by
            rw [Maps.size_eq, (foldr_perm _).length_eq, List.length_map, Array.length_toList, hcsz]
          have hcalls := told (φ.blk b) (φ.blk mb) ks.length _ R w (I.mem.inHeap hx (by simp)) hcell hown (by rw [hsize]; unfold maxLen; omega) (by rw [hsize]; omega)
          have hargs : (concL φ [V.fn g' [] [.ptr b 0]]).toArray = #[.func (.func g') #[] #[.pointer (some ⟨φ.blk b, 0, none⟩)]] := by
            simp [concL, conc, off0]
          rw [← hargs] at hcalls
          refine gives_of_calls (hcalls.mono ?_) he hs a
          rintro en w' ⟨rv, ss, rfl, hp, hrow, hnil, hb⟩
          have hpk : ss.Perm (ks.map Int.ofNat) := hp.trans hperm
          obtain ⟨X, J⟩ := I.below hb
          cases hke : ks with
          | nil =>
            rw [hke] at e6 hpk
            cases e6
            have : ss = [] := List.Perm.eq_nil (by simpa using hpk)
            refine ⟨φ, ?_, X, J, by simp [fineV]⟩
            rw [hnil.2 this]; simp [conc]
          | cons k0 ks' =>
            have hmk : mkRow kt h (sortN ks) = some (v, h') := by rw [hke] at e6; rw [hke]; exact e6
            have hss : ss ≠ [] := by
              rintro rfl
              have := hpk.length_eq
              rw [hke] at this; simp at this
            have hsort : ss.mergeSort (fun x y => decide (x ≤ y)) = (sortN ks).map Int.ofNat := by
              have h1 : ss.Perm ((sortN ks).map Int.ofNat) := hpk.trans ((sortN_perm ks).symm.map _)
              have h2 := mergeSort_of_perm_i h1
              refine h2.trans ?_
              refine List.mergeSort_of_pairwise (List.Pairwise.map _ (fun a b hab => ?_) (incB_ok _ d1))
              simp only [decide_eq_true_eq]
              exact Int.ofNat_le.2 (Nat.le_of_lt hab)
            have hln : ss.length = (sortN ks).length := by
              rw [hpk.length_eq, List.length_map, (sortN_perm ks).length_eq]
            unfold mkRow at hmk
            cases hnw : (H.new h (.cells (intsV (sortN ks)) kt true 0 0) fun b h => (.ok ((.gs b 0 1 (lenL (sortN ks))), h) : Go.Vint.R (V × H))) with
            | no c => rw [hnw] at hmk; cases hmk
            | ok r =>
              rw [hnw] at hmk
              cases hmk
              obtain ⟨n1, n2⟩ := H.new_ok hnw
              cases n2
              rcases hrow.2 with ⟨rfl, hz⟩ | ⟨gb, cap, cur, rfl, hbase, hgb, r1, r2, r3, r4⟩
              · exact absurd (List.eq_nil_of_length_eq_zero hz) hss
              · have hup := Phi.up_same φ h.next gb 0 cap
                have hnew : (φ.up h.next gb 0 cap).blk h.next = gb := by simp [Phi.up]
                have hoff : (φ.up h.next gb 0 cap).off h.next = 0 := by simp [Phi.up]
                have hK : (φ.up h.next gb 0 cap).K h.next = cap := by simp [Phi.up]
                have X1 := X.mix J hup
                have J1 := J.mix hup
                obtain ⟨inf, hinf, hsz1⟩ := hi
                have hlv : ∀ bb, Live h bb → (φ.up h.next gb 0 cap).blk bb ≠ (φ.up h.next gb 0 cap).blk h.next := by
                  intro bb hbb
                  rw [hnew, (hup bb (I.mem.llt bb hbb)).1]
                  obtain ⟨x', hx', hd'⟩ := hbb
                  have := I.mem.inHeap hx' hd'
                  omega
                have hlen2 : (intsV (sortN ks)).length = ss.length := by rw [intsV_eq, List.length_map, hln]
                refine ⟨φ.up h.next gb 0 cap, ?_, X1.reveal n1 (by rw [hnew]; exact hbase) J1, J1.revealO n1 ?_ ?_ hlv, ?_⟩
                · simp only [conc, hnew, hoff, hK, lenL_eq, hln]
                  simp
                · show fineL _ _ _
                  rw [fineL_iff, intsV_eq]
                  intro z hz
                  obtain ⟨n, _, rfl⟩ := List.mem_map.1 hz
                  simp [fineV]
                · rw [hnew, hgb]
                  refine ⟨cur, 0, 0, rfl, fun i z hz => ?_, ⟨Nat.le_refl _, fun h => absurd h (by omega)⟩, fun _ => ⟨hoff, inf, hinf, ?_, ?_⟩, by simp⟩
                  · rw [hoff, Nat.zero_add]
                    rw [intsV_eq, List.getElem?_map] at hz
                    cases hn : (sortN ks)[i]? with
                    | none => rw [hn] at hz; cases hz
                    | some n =>
                      rw [hn] at hz
                      cases hz
                      have h5 : (cur.toList.take (ss.length * 1))[i]? = some (.int .i64 (Int.ofNat n)) := by
                        rw [r4, hsort, List.map_map, List.getElem?_map, hn]; rfl
                      rw [List.getElem?_take] at h5
                      split at h5
                      · rw [Array.getElem?_toList] at h5
                        rw [h5]; simp [conc]
                      · cases h5
                  · rw [hK, hsz1, hlen2]; omega
                  · rw [hK, hsz1, r3]; omega
                · simp only [fineV]
                  refine ⟨Nat.lt_succ_self _, ?_⟩
                  rw [hK, lenL_eq, ← hln]; omega
        | _ => cases e4
      | _ => cases e3
  | _ => cases e2
end
end Go.Vint
namespace Go.Vint
open Go.RowKit
noncomputable section
variable {P : Program} {E : Env} {φ φ' φ0 : Phi} {D : Nat → Prop} {w w' w0 : World} {h h' h0 : H} {v : V} {ih : Ih}

/-! ## strings.Trim at the byte 0, strings.Repeat of bytes 0 -/
def hTrim (as : List V) (h : H) : Option (V × H) := match as with
  | [.str s, .str c] => Bool.casesOn (and (Nat.beq c.n 0) (and (Nat.beq c.len 1) (Nat.ble s.len 1000000))) none (Bool.casesOn (Nat.beq s.n 0)
      (Bool.casesOn (Nat.beq (Nat.mod s.n 256) 0) (seqNat (Nat.succ (Nat.div (Nat.log2 s.n) 8)) fun m => Bool.casesOn (Nat.ble m s.len) none (some (.str ⟨s.n, m⟩, h))) none) (some (.str ⟨0, 0⟩, h)))
  | _ => none
def hRepeat (as : List V) (h : H) : Option (V × H) := match as with
  | [.str s, .int k n] => Int.casesOn n (fun c => Bool.casesOn (and (sameK k .i64) (and (Nat.beq s.n 0) (and (Nat.ble c 1000000) (Nat.ble (Nat.mul s.len c) 1000000)))) none (seqNat (Nat.mul s.len c) fun m => some (.str ⟨0, m⟩, h))) fun _ => none
  | _ => none
theorem zero_bytes (n : Nat) : (Str.mk 0 n).bytes = List.replicate n 0 := by
  apply List.ext_getElem?
  intro i
  rw [Str.bytes_get, List.getElem?_replicate]
  have : (Str.mk 0 n).at i = 0 := by rw [Str.at_eq]; simp
  rw [this]; rfl
theorem trimR_rep (n : Nat) : Lib.trimB (List.replicate n 0) 0 = [] := by
  unfold Lib.trimB Lib.trimRightB Lib.trimLeftB
  simp
theorem log_pow {n : Nat} (h : n ≠ 0) : n / 256 ^ (n.log2 / 8) % 256 ≠ 0 ∧ ∀ i, n.log2 / 8 < i → n / 256 ^ i = 0 := by
  have h1 : 2 ^ n.log2 ≤ n := Nat.log2_self_le h
  have h2 : n < 2 ^ (n.log2 + 1) := Nat.lt_log2_self
  have p : ∀ k, 256 ^ k = 2 ^ (8 * k) := fun k => by rw [show (256 : Nat) = 2 ^ 8 from rfl, ← Nat.pow_mul]
  constructor
  · have h3 : n / 256 ^ (n.log2 / 8) < 256 := by
      rw [p]
      refine Nat.div_lt_of_lt_mul ?_
      have : 2 ^ (8 * (n.log2 / 8)) * 256 = 2 ^ (8 * (n.log2 / 8) + 8) := by rw [Nat.pow_add]
      rw [this]
      exact Nat.lt_of_lt_of_le h2 (Nat.pow_le_pow_right (by decide) (by omega))
    rw [Nat.mod_eq_of_lt h3]
    have h4 : 256 ^ (n.log2 / 8) ≤ n := by
      rw [p]
      exact Nat.le_trans (Nat.pow_le_pow_right (by decide) (by omega)) h1
    have := Nat.div_pos h4 (pow_pos8 _)
    omega
  · intro i hi
    apply Nat.div_eq_of_lt
    rw [p]
    exact Nat.lt_of_lt_of_le h2 (Nat.pow_le_pow_right (by decide) (by omega))
theorem trim_str {s : Str} (h0 : s.n ≠ 0) (h1 : s.n % 256 ≠ 0) (hm : s.n.log2 / 8 + 1 ≤ s.len) : Lib.trimB s.bytes 0 = (Str.mk s.n (s.n.log2 / 8 + 1)).bytes := by
  obtain ⟨l1, l2⟩ := log_pow h0
  have e : s.bytes = (Str.mk s.n (s.n.log2 / 8 + 1)).bytes ++ List.replicate (s.len - (s.n.log2 / 8 + 1)) 0 := by
    apply List.ext_getElem?
    intro i
    rw [List.getElem?_append, Str.bytes_get, Str.bytes_get, Str.bytes_length]
    by_cases hi : i < s.n.log2 / 8 + 1
    · rw [if_pos hi, if_pos (show i < (Str.mk s.n (s.n.log2 / 8 + 1)).len from hi), if_pos (show i < s.len by omega)]; rfl
    · rw [if_neg (show ¬ i < (Str.mk s.n (s.n.log2 / 8 + 1)).len from hi), List.getElem?_replicate]
      show _ = if i - (s.n.log2 / 8 + 1) < s.len - (s.n.log2 / 8 + 1) then some 0 else none
      by_cases hi2 : i < s.len
      · rw [if_pos hi2, if_pos (by omega)]
        have : s.at i = 0 := by rw [Str.at_eq, l2 i (by omega)]
        rw [this]; rfl
      · rw [if_neg hi2, if_neg (by omega)]
  have last : (Str.mk s.n (s.n.log2 / 8 + 1)).bytes ≠ [] := by
    intro e; have := congrArg List.length e; rw [Str.bytes_length] at this; cases this
  unfold Lib.trimB Lib.trimRightB Lib.trimLeftB
  have r1 : (s.bytes.reverse.dropWhile (· == 0)).reverse = (Str.mk s.n (s.n.log2 / 8 + 1)).bytes := by
    rw [e, List.reverse_append, List.reverse_replicate]
    have h2 : (List.replicate (s.len - (s.n.log2 / 8 + 1)) (0 : UInt8) ++ (Str.mk s.n (s.n.log2 / 8 + 1)).bytes.reverse).dropWhile (· == 0) = (Str.mk s.n (s.n.log2 / 8 + 1)).bytes.reverse.dropWhile (· == 0) := by
      generalize s.len - (s.n.log2 / 8 + 1) = k
      induction k with
      | zero => simp
      | succ k ih => rw [List.replicate_succ, List.cons_append, List.dropWhile_cons]; simp
    rw [h2]
    have h3 : (Str.mk s.n (s.n.log2 / 8 + 1)).bytes.reverse.dropWhile (· == 0) = (Str.mk s.n (s.n.log2 / 8 + 1)).bytes.reverse := by
      cases hr : (Str.mk s.n (s.n.log2 / 8 + 1)).bytes.reverse with
      | nil => rfl
      | cons a r =>
        have ha : (Str.mk s.n (s.n.log2 / 8 + 1)).bytes[s.n.log2 / 8]? = some a := by
          have h4 : (Str.mk s.n (s.n.log2 / 8 + 1)).bytes.reverse[0]? = some a := by rw [hr]; rfl
          rw [List.getElem?_reverse (by rw [Str.bytes_length]; exact Nat.succ_pos _), Str.bytes_length] at h4
          simpa using h4
        rw [Str.bytes_get, if_pos (show s.n.log2 / 8 < (Str.mk s.n (s.n.log2 / 8 + 1)).len from Nat.lt_succ_self _)] at ha
        have hne : a ≠ 0 := by
          intro h5
          rw [h5] at ha
          have h6 := congrArg UInt8.toNat (Option.some.inj ha)
          rw [Str.toNat_at, Str.at_eq] at h6
          exact l1 h6
        rw [List.dropWhile_cons]
        simp [hne]
    rw [h3, List.reverse_reverse]
  rw [r1]
  cases hb : (Str.mk s.n (s.n.log2 / 8 + 1)).bytes with
  | nil => rfl
  | cons a r =>
    have ha : (Str.mk s.n (s.n.log2 / 8 + 1)).bytes[0]? = some a := by rw [hb]; rfl
    rw [Str.bytes_get, if_pos (show 0 < (Str.mk s.n (s.n.log2 / 8 + 1)).len from Nat.succ_pos _)] at ha
    have hne : a ≠ 0 := by
      intro h5
      rw [h5] at ha
      have h6 := congrArg UInt8.toNat (Option.some.inj ha)
      rw [Str.toNat_at, Str.at_eq] at h6
      simp at h6
      exact h1 h6
    rw [List.dropWhile_cons]
    simp [hne]
theorem repeat_zero (n c : Nat) : Lib.repeatL (List.replicate n 0) c = (Str.mk 0 (n * c)).bytes := by
  rw [zero_bytes]
  induction c with
  | zero => simp [Lib.repeatL]
  | succ c ih => simp only [Lib.repeatL, ih]; rw [List.replicate_append_replicate, Nat.mul_succ, Nat.add_comm]

theorem hTrim_good {f : FuncId} (told : ∀ (s : ByteArray) (c : UInt8), c.toNat < 128 → ∀ w : World, s.size ≤ 9223372036854775807 →
      Calls P f #[.string s, .string ⟨#[c]⟩] w fun e w' => e = .returned (.string ⟨(Lib.trimB s.data.toList c).toArray⟩) ∧ (w' = w ∨ w' = w.drew))
    (he : ∀ args w, (callFunc f args).run P w = .ok (.enter f args) w) : GoodHook P f hTrim := by
  intro as h v h' e
  unfold hTrim at e
  split at e
  case h_2 => cases e
  rename_i s c
  obtain ⟨c1, e1⟩ := bool_some (x := and (Nat.beq c.n 0) (and (Nat.beq c.len 1) (Nat.ble s.len 1000000))) e
  obtain ⟨c2, c3⟩ := and_ok c1
  obtain ⟨c3, c4⟩ := and_ok c3
  have c4 : s.len ≤ 1000000 := ble_le c4
  have hc : c.val = ⟨#[0]⟩ := by
    obtain ⟨n, l⟩ := c
    rw [show n = 0 from beq_eq c2, show l = 1 from beq_eq c3]
    show (⟨(Str.mk 0 1).bytes.toArray⟩ : ByteArray) = _
    rw [zero_bytes]; rfl
  have main : ∀ r : Str, Lib.trimB s.bytes 0 = r.bytes → CallTo P f [.str s, .str c] h (.str r) h := by
    intro r hr
    refine callTo_below he (by simp [fineV]) fun φ w => ?_
    have := told s.val 0 (by decide) w (by rw [Str.val_size]; omega)
    simp only [concL, conc]
    rw [hc]
    refine this.mono ?_
    rintro en w' ⟨rfl, hw⟩
    refine ⟨?_, ?_⟩
    · rw [Str.val_toList, hr]; rfl
    · rcases hw with rfl | rfl
      · exact Below.refl _ _
      · exact ⟨rfl, rfl, rfl, Nat.le_refl _, fun _ _ => rfl⟩
  cases h0 : Nat.beq s.n 0 with
  | true =>
    rw [h0] at e1
    cases e1
    refine main ⟨0, 0⟩ ?_
    have : s = ⟨0, s.len⟩ := by obtain ⟨n, l⟩ := s; rw [show n = 0 from beq_eq h0]
    rw [this, zero_bytes, trimR_rep]; rfl
  | false =>
    rw [h0] at e1
    have e1 : (Bool.casesOn (Nat.beq (Nat.mod s.n 256) 0) (seqNat (Nat.succ (Nat.div (Nat.log2 s.n) 8)) fun m => Bool.casesOn (Nat.ble m s.len) none (some (.str ⟨s.n, m⟩, h))) none : Option (V × H)) = some (v, h') := e1
    cases h1 : Nat.beq (Nat.mod s.n 256) 0 with
    | true => rw [h1] at e1; cases e1
    | false =>
      rw [h1] at e1
      have e1 : seqNat (Nat.succ (Nat.div (Nat.log2 s.n) 8)) (fun m => (Bool.casesOn (Nat.ble m s.len) none (some (.str ⟨s.n, m⟩, h)) : Option (V × H))) = some (v, h') := e1
      rw [seqNat_eq] at e1
      obtain ⟨c5, e2⟩ := bool_some e1
      cases e2
      have hz : ∀ {a b : Nat}, Nat.beq a b = false → a ≠ b := by
        intro a b hab he
        rw [he, Nat.beq_refl] at hab; cases hab
      exact main _ (trim_str (hz h0) (hz h1) (ble_le c5))
theorem hRepeat_good {f : FuncId} (told : ∀ (s : ByteArray) (c : Nat) (w : World), c ≤ 9223372036854775807 → s.size * c ≤ 140737488355328 →
      Calls P f #[.string s, .int .i64 c] w fun e w' => e = .returned (.string ⟨(Lib.repeatL s.data.toList c).toArray⟩) ∧ Below w.heap.size w w')
    (he : ∀ args w, (callFunc f args).run P w = .ok (.enter f args) w) : GoodHook P f hRepeat := by
  intro as h v h' e
  unfold hRepeat at e
  split at e
  case h_2 => cases e
  rename_i s k n
  cases n with
  | negSucc n => cases e
  | ofNat c =>
    obtain ⟨c1, e1⟩ := bool_some (x := and (sameK k .i64) (and (Nat.beq s.n 0) (and (Nat.ble c 1000000) (Nat.ble (Nat.mul s.len c) 1000000)))) e
    obtain ⟨c1, c2⟩ := and_ok c1
    obtain ⟨c2, c3⟩ := and_ok c2
    obtain ⟨c3, c4⟩ := and_ok c3
    have c3 : c ≤ 1000000 := ble_le c3
    have c4 : s.len * c ≤ 1000000 := ble_le c4
    rw [seqNat_eq] at e1
    cases e1
    refine callTo_below he (by simp [fineV]) fun φ w => ?_
    have := told s.val c w (by omega) (by rw [Str.val_size]; omega)
    simp only [concL, conc]
    rw [sameK_eq c1]
    refine this.mono ?_
    rintro en w' ⟨rfl, hw⟩
    refine ⟨?_, hw⟩
    have hs : s = ⟨0, s.len⟩ := by obtain ⟨n, l⟩ := s; rw [show n = 0 from beq_eq c2]
    rw [Str.val_toList, hs, zero_bytes, repeat_zero]; rfl
end
end Go.Vint
namespace Go.Vint
open Go.RowKit
noncomputable section
variable {P : Program} {E : Env} {φ φ' φ0 : Phi} {D : Nat → Prop} {w w' w0 : World} {h h' h0 : H} {v : V} {ih : Ih}

/-! ## bytealg's functions on strings -/
theorem bytes_succ (n l : Nat) : (Str.mk n (l + 1)).bytes = UInt8.ofNat (n % 256) :: (Str.mk (n / 256) l).bytes := by
  apply List.ext_getElem?
  intro i
  cases i with
  | zero => rw [Str.bytes_get, if_pos (Nat.succ_pos _)]; simp [Str.at_eq]
  | succ i =>
    rw [List.getElem?_cons_succ, Str.bytes_get, Str.bytes_get]
    by_cases hi : i < l
    · rw [if_pos (show i + 1 < (Str.mk n (l + 1)).len by show i + 1 < l + 1; omega), if_pos (show i < (Str.mk (n / 256) l).len from hi)]
      simp only [Str.at_eq]
      rw [Nat.pow_succ, Nat.mul_comm, ← Nat.div_div_eq_div_mul]
    · rw [if_neg (show ¬ i + 1 < (Str.mk n (l + 1)).len by show ¬ i + 1 < l + 1; omega), if_neg (show ¬ i < (Str.mk (n / 256) l).len from hi)]
def cntS (c l : Nat) : Nat → Nat := Nat.rec (motive := fun _ => Nat → Nat) (fun _ => 0) (fun _ ih n => Bool.casesOn (Nat.beq (Nat.mod n 256) c) (ih (Nat.div n 256)) (Nat.succ (ih (Nat.div n 256)))) l
def idxS (c l : Nat) : Nat → Int := Nat.rec (motive := fun _ => Nat → Int) (fun _ => .negSucc 0) (fun _ ih n => Bool.casesOn (Nat.beq (Nat.mod n 256) c) (Int.casesOn (ih (Nat.div n 256)) (fun m => .ofNat (Nat.succ m)) fun _ => .negSucc 0) (.ofNat 0)) l
theorem byte_beq {a c : Nat} (ha : a < 256) (hc : c < 256) : (UInt8.ofNat a == UInt8.ofNat c) = Nat.beq a c := by
  rw [beq_dec]
  by_cases h : a = c
  · subst h; simp
  · rw [decide_eq_false h, beq_eq_false_iff_ne]
    intro he
    have := congrArg UInt8.toNat he
    simp at this
    omega
theorem cntS_eq (c : Nat) (hc : c < 256) (l : Nat) : ∀ n, cntS c l n = Lib.countByte (Str.mk n l).bytes (UInt8.ofNat c) := by
  induction l with
  | zero => intro n; rfl
  | succ l ih =>
    intro n
    rw [bytes_succ]
    show (Bool.casesOn (Nat.beq (n % 256) c) (cntS c l (n / 256)) (Nat.succ (cntS c l (n / 256))) : Nat) = _
    unfold Lib.countByte at *
    rw [List.count_cons, byte_beq (Nat.mod_lt _ (by decide)) hc, ih]
    cases Nat.beq (n % 256) c <;> rfl
theorem idxS_eq (c : Nat) (hc : c < 256) (l : Nat) : ∀ n, idxS c l n = Lib.indexByte (Str.mk n l).bytes (UInt8.ofNat c) := by
  induction l with
  | zero => intro n; rfl
  | succ l ih =>
    intro n
    rw [bytes_succ]
    show (Bool.casesOn (Nat.beq (n % 256) c) (Int.casesOn (idxS c l (n / 256)) (fun m => .ofNat (Nat.succ m)) fun _ => .negSucc 0) (.ofNat 0) : Int) = _
    unfold Lib.indexByte
    rw [byte_beq (Nat.mod_lt _ (by decide)) hc, ih]
    cases Nat.beq (n % 256) c with
    | true => rfl
    | false =>
      have hge := Lib.indexByte_ge (Str.mk (n / 256) l).bytes (UInt8.ofNat c)
      cases hx : Lib.indexByte (Str.mk (n / 256) l).bytes (UInt8.ofNat c) with
      | ofNat m =>
        show Int.ofNat (m + 1) = if false = true then 0 else if (Int.ofNat m == -1) = true then -1 else Int.ofNat m + 1
        rw [if_neg (by simp), if_neg (by simp)]; rfl
      | negSucc m =>
        rw [hx] at hge
        have : m = 0 := by have : (-1 : Int) ≤ Int.negSucc m := hge
                           omega
        subst this
        rfl
def hCount (as : List V) (h : H) : Option (V × H) := match as with
  | [.str s, .int k n] => Int.casesOn n (fun c => Bool.casesOn (and (sameK k .u8) (Nat.ble (Nat.succ c) 256)) none (seqNat (cntS c s.len s.n) fun m => some (.int .i64 (.ofNat m), h))) fun _ => none
  | _ => none
def hIndexByte (as : List V) (h : H) : Option (V × H) := match as with
  | [.str s, .int k n] => Int.casesOn n (fun c => Bool.casesOn (and (sameK k .u8) (Nat.ble (Nat.succ c) 256)) none (seqInt (idxS c s.len s.n) fun m => some (.int .i64 m, h))) fun _ => none
  | _ => none
/-- a hook for a function without a body, that runs to a value and leaves the world -/
theorem extern_good {f : FuncId} {fn : Func} {e : Array Value → Sem Value} {g : List V → H → Option (V × H)} (hf : P.funcs[f]? = some fn) (hname : (fn.name == "runtime.NumGoroutine") = false)
    (hb : fn.body.isNone = true) (hn : Extern.findNext fn = none) (he : Extern.find fn = some e)
    (hr : ∀ as h v h', g as h = some (v, h') → h' = h ∧ (∀ φ D, fineV φ D v) ∧ ∀ φ w, Runs P (e (concL φ as).toArray) w (conc φ v) w) : GoodHook P f g := by
  intro as h v h' hg φ w I hfa m fr cs s hs a
  obtain ⟨rfl, h1, h2⟩ := hr as h v h' hg
  exact hook_extern hf hname hb hn he (Ef.val (h2 φ w) (Ext.refl _ _ _ I.mem.llt) I (h1 φ _)) hs a
theorem hCount_runs : ∀ as h v h', hCount as h = some (v, h') → h' = h ∧ (∀ φ D, fineV φ D v) ∧ ∀ φ w, Runs P (Extern.BytealgCount.count (concL φ as).toArray) w (conc φ v) w := by
  intro as h v h' e
  unfold hCount at e
  split at e
  case h_2 => cases e
  rename_i s k n
  cases n with
  | negSucc n => cases e
  | ofNat c =>
    obtain ⟨c1, e1⟩ := bool_some (x := and (sameK k .u8) (Nat.ble (Nat.succ c) 256)) e
    obtain ⟨c1, c2⟩ := and_ok c1
    have c2 : c < 256 := succ_ble c2
    rw [seqNat_eq] at e1
    cases e1
    refine ⟨rfl, by simp [fineV], fun φ w => ?_⟩
    rw [sameK_eq c1]
    have := Lib.run_countString (P := P) s.val (Int.ofNat c) w
    rw [Str.val_toList] at this
    simp only [concL, conc]
    rw [cntS_eq c c2]
    exact this
theorem hIndexByte_runs : ∀ as h v h', hIndexByte as h = some (v, h') → h' = h ∧ (∀ φ D, fineV φ D v) ∧ ∀ φ w, Runs P (Extern.BytealgIndexByte.indexByte (concL φ as).toArray) w (conc φ v) w := by
  intro as h v h' e
  unfold hIndexByte at e
  split at e
  case h_2 => cases e
  rename_i s k n
  cases n with
  | negSucc n => cases e
  | ofNat c =>
    obtain ⟨c1, e1⟩ := bool_some (x := and (sameK k .u8) (Nat.ble (Nat.succ c) 256)) e
    obtain ⟨c1, c2⟩ := and_ok c1
    have c2 : c < 256 := succ_ble c2
    rw [seqInt_eq] at e1
    cases e1
    refine ⟨rfl, by simp [fineV], fun φ w => ?_⟩
    rw [sameK_eq c1]
    have := Lib.run_indexByteString (P := P) s.val (Int.ofNat c) w
    rw [Str.val_toList] at this
    simp only [concL, conc]
    rw [idxS_eq c c2]
    exact this
def ordS (l : Nat) : Nat → Nat → Nat → Int :=
  Nat.rec (motive := fun _ => Nat → Nat → Nat → Int) (fun _ m _ => Nat.casesOn m (.ofNat 0) fun _ => .negSucc 0)
    (fun _ ih n m k => Nat.casesOn m (.ofNat 1) fun m => Bool.casesOn (Nat.ble (Nat.succ (Nat.mod n 256)) (Nat.mod k 256)) (Bool.casesOn (Nat.ble (Nat.succ (Nat.mod k 256)) (Nat.mod n 256)) (ih (Nat.div n 256) m (Nat.div k 256)) (.ofNat 1)) (.negSucc 0)) l
theorem byte_lt {a b : Nat} (ha : a < 256) (hb : b < 256) : (UInt8.ofNat a < UInt8.ofNat b) ↔ Nat.ble (Nat.succ a) b = true := by
  rw [UInt8.lt_iff_toNat_lt, ble_dec, decide_eq_true_eq]
  simp only [UInt8.toNat_ofNat']
  rw [Nat.mod_eq_of_lt ha, Nat.mod_eq_of_lt hb]
  exact Iff.rfl
theorem ordS_eq (l : Nat) : ∀ n m k, ordS l n m k = Lib.compareBytes (Str.mk n l).bytes (Str.mk k m).bytes := by
  induction l with
  | zero =>
    intro n m k
    cases m with
    | zero => rfl
    | succ m => rw [bytes_succ]; rfl
  | succ l ih =>
    intro n m k
    cases m with
    | zero => rw [bytes_succ]; rfl
    | succ m =>
      rw [bytes_succ, bytes_succ]
      show (Bool.casesOn (Nat.ble (Nat.succ (n % 256)) (k % 256)) (Bool.casesOn (Nat.ble (Nat.succ (k % 256)) (n % 256)) (ordS l (n / 256) m (k / 256)) (.ofNat 1)) (.negSucc 0) : Int) = _
      unfold Lib.compareBytes
      have b1 := byte_lt (a := n % 256) (b := k % 256) (Nat.mod_lt _ (by decide)) (Nat.mod_lt _ (by decide))
      have b2 := byte_lt (a := k % 256) (b := n % 256) (Nat.mod_lt _ (by decide)) (Nat.mod_lt _ (by decide))
      cases h1 : Nat.ble (Nat.succ (n % 256)) (k % 256) with
      | true => rw [if_pos (b1.2 h1)]; rfl
      | false =>
        rw [if_neg (fun h => by rw [b1.1 h] at h1; cases h1)]
        cases h2 : Nat.ble (Nat.succ (k % 256)) (n % 256) with
        | true => rw [if_pos (b2.2 h2)]; rfl
        | false =>
          rw [if_neg (fun h => by rw [b2.1 h] at h2; cases h2)]
          exact ih _ _ _
def hCompare (as : List V) (h : H) : Option (V × H) := match as with
  | [.str s, .str t] => seqInt (ordS s.len s.n t.len t.n) fun m => some (.int .i64 m, h)
  | _ => none
theorem hCompare_runs : ∀ as h v h', hCompare as h = some (v, h') → h' = h ∧ (∀ φ D, fineV φ D v) ∧ ∀ φ w, Runs P (Extern.BytealgCompare.compare (concL φ as).toArray) w (conc φ v) w := by
  intro as h v h' e
  unfold hCompare at e
  split at e
  case h_2 => cases e
  rename_i s t
  rw [seqInt_eq] at e
  cases e
  refine ⟨rfl, by simp [fineV], fun φ w => ?_⟩
  have := Lib.run_compareString (P := P) s.val t.val w
  rw [Str.val_toList, Str.val_toList] at this
  simp only [concL, conc]
  rw [ordS_eq]
  exact this
end
end Go.Vint
namespace Go.Vint
open Go.RowKit
noncomputable section
variable {P : Program} {E : Env} {φ φ' φ0 : Phi} {D : Nat → Prop} {w w' w0 : World} {h h' h0 : H} {v : V} {ih : Ih}

/-! ## Arrays of plain cells, compared -/
theorem part_runs {e : TypeId} {k : FK} (hk : fkOf (P.underlying e) = some k) {c : List V} {i : Nat} {z : V} (hz : c[i]? = some z) : Runs P (part e (concL φ c).toArray i) w (conc φ z) w := by
  have hund : ∃ ud, P.underlying e = some ud ∧ aggD ud = false := by
    cases hu : P.underlying e with
    | none => rw [hu] at hk; cases hk
    | some ud =>
      rw [hu] at hk
      refine ⟨ud, rfl, ?_⟩
      cases ud <;> first | rfl | cases hk
  obtain ⟨ud, hu, hagg⟩ := hund
  unfold part
  refine runs_bind (runs_isAgg hu w) ?_
  rw [hagg]
  simp only [Bool.false_eq_true, if_false]
  have : (concL φ c).toArray[i]? = some (conc φ z) := by
    rw [concL_eq]; simp [hz]
  rw [this]
  exact runs_pure _ _
theorem flat1_runs {d : Nat} {e : TypeId} {k : FK} (hk : fkOf (P.underlying e) = some k) {x y : V} {q : Bool} (hq : flat1 k x y = some q) : Runs P (Op.equalIn (d + 1) e (conc φ x) (conc φ y)) w q w := by
  cases k with
  | bool =>
    have hu' : P.underlying e = some .bool := by
      cases hu : P.underlying e with
      | none => rw [hu] at hk; cases hk
      | some ud => rw [hu] at hk; cases ud <;> first | rfl | cases hk
    cases x <;> cases y <;> first | (cases hq; done) | skip
    rename_i p q'
    cases hq
    simp only [conc]
    exact run_equalIn_bool' w d e _ _ hu'
  | int =>
    have hu' : ∃ k', P.underlying e = some (.int k') := by
      cases hu : P.underlying e with
      | none => rw [hu] at hk; cases hk
      | some ud => rw [hu] at hk; cases ud <;> first | exact ⟨_, rfl⟩ | cases hk
    obtain ⟨k', hu'⟩ := hu'
    cases x <;> cases y <;> first | (cases hq; done) | skip
    rename_i k1 n1 k2 n2
    have hq : (if k1 = k2 then some (n1 == n2) else none) = some q := hq
    split at hq
    · rename_i hkk
      cases hq
      subst hkk
      simp only [conc]
      exact run_equalIn_int w d e _ k' _ _ hu'
    · cases hq
  | str =>
    have hu' : P.underlying e = some .string := by
      cases hu : P.underlying e with
      | none => rw [hu] at hk; cases hk
      | some ud => rw [hu] at hk; cases ud <;> first | rfl | cases hk
    cases x <;> cases y <;> first | (cases hq; done) | skip
    rename_i s1 s2
    cases hq
    simp only [conc]
    have := run_equalIn_string w d e s1.val s2.val hu'
    rw [← beq_toListBytes] at this
    rw [← val_beq]
    exact this
def flatArr (P : Program) (t : TypeId) : List FK := match P.underlying t with
  | some (.array n e) => (match fkOf (P.underlying e) with
    | some k => if P.eqGuardType P.depth t = false ∧ P.cellsOf e = 1 ∧ (P.info? e).isSome = true then List.replicate n k else []
    | none => [])
  | _ => []
theorem eqItems_flat (d : Nat) {e : TypeId} {k : FK} (hk : fkOf (P.underlying e) = some k) {a b : List V} {r : Bool} (m : Nat) : ∀ s, flatB (List.replicate m k) (a.drop s) (b.drop s) = some r →
    Runs P (Op.eqItems (d + 1) e 1 (concL φ a).toArray (concL φ b).toArray (List.range' s m)) w r w := by
  induction m with
  | zero =>
    intro s hb
    cases ha : a.drop s with
    | nil =>
      cases hb' : b.drop s with
      | nil => rw [ha, hb'] at hb; cases hb; exact runs_pure _ _
      | cons _ _ => rw [ha, hb'] at hb; cases hb
    | cons _ _ => rw [ha] at hb; cases hb
  | succ m ih =>
    intro s hb
    cases ha : a.drop s with
    | nil => rw [ha] at hb; cases hb
    | cons x a' =>
      cases hb' : b.drop s with
      | nil => rw [ha, hb'] at hb; cases hb
      | cons y b' =>
        rw [ha, hb'] at hb
        have hx : a[s]? = some x := by
          have := congrArg (fun l => l[0]?) ha
          simpa using this
        have hy : b[s]? = some y := by
          have := congrArg (fun l => l[0]?) hb'
          simpa using this
        have ha' : a' = a.drop (s + 1) := by
          have := congrArg (fun l => l.drop 1) ha
          simpa using this.symm
        have hb'' : b' = b.drop (s + 1) := by
          have := congrArg (fun l => l.drop 1) hb'
          simpa using this.symm
        rw [List.range'_succ]
        unfold Op.eqItems
        rw [Nat.mul_one]
        refine runs_bind (part_runs hk hx) (runs_bind (part_runs hk hy) ?_)
        have hb2 : (match flat1 k x y with | none => none | some false => some false | some true => flatB (List.replicate m k) a' b') = some r := hb
        cases hf1 : flat1 k x y with
        | none => rw [hf1] at hb2; cases hb2
        | some q =>
          rw [hf1] at hb2
          refine runs_bind (flat1_runs hk hf1) ?_
          cases q with
          | false => cases hb2; exact runs_pure _ _
          | true =>
            simp only [Bool.not_true, Bool.false_eq_true, if_false]
            subst ha' hb''
            exact ih (s + 1) hb2
theorem flatArr_ok (t : TypeId) (h : flatArr P t ≠ []) : FlatOk P t (flatArr P t) := by
  unfold flatArr at h ⊢
  cases hu : P.underlying t with
  | none => rw [hu] at h; exact absurd rfl h
  | some d =>
    rw [hu] at h
    cases d with
    | array n e =>
      dsimp only at h ⊢
      cases hk : fkOf (P.underlying e) with
      | none => rw [hk] at h; exact absurd rfl h
      | some k =>
        rw [hk] at h
        dsimp only at h ⊢
        split at h
        · rename_i hc
          rw [if_pos hc]
          refine ⟨hc.1, fun a b r hb φ w => ?_⟩
          obtain ⟨i, hi⟩ := Option.isSome_iff_exists.1 hc.2.2
          have := run_equalIn_array (P := P) w 9999 (concL φ a).toArray (concL φ b).toArray hu hi
          show (Op.equalIn 10000 t _ _).run P w = _
          rw [this, hc.2.1, List.range_eq_range']
          exact eqItems_flat 9998 hk n 0 (by simpa using hb)
        · exact absurd rfl h
    | _ => exact absurd rfl h

/-! ## Known calls, made of runs -/
def maskT (d : Nat) : T O → T O → T O :=
  Nat.rec (motive := fun _ => T O → T O → T O) (fun m t => match m with | .t _ => t | _ => .e)
    (fun _ ih m t => match m with | .n a b c d => (match t with | .n a' b' c' d' => .n (ih a a') (ih b b') (ih c c') (ih d d') | _ => .e) | _ => .e) d
theorem get_e' (d : Nat) (b : Nat) : (T.e : T O).get d b = none := T.get_e d b
theorem maskT_get (d : Nat) : ∀ (m t : T O) (b : Nat) (o : O), (maskT d m t).get d b = some o → t.get d b = some o := by
  induction d with
  | zero =>
    intro m t b o hg
    cases m with
    | t _ => exact hg
    | e => rw [show maskT 0 .e t = .e from rfl, get_e'] at hg; cases hg
    | n a1 a2 a3 a4 => rw [show maskT 0 (.n a1 a2 a3 a4) t = .e from rfl, get_e'] at hg; cases hg
  | succ d ih =>
    intro m t b o hg
    cases m with
    | n a1 a2 a3 a4 =>
      cases t with
      | n b1 b2 b3 b4 =>
        have hg : (sel (Nat.mod b 4) (maskT d a1 b1) (maskT d a2 b2) (maskT d a3 b3) (maskT d a4 b4)).get d (Nat.div b 4) = some o := hg
        show (sel (Nat.mod b 4) b1 b2 b3 b4).get d (Nat.div b 4) = some o
        generalize Nat.mod b 4 = r at hg ⊢
        rcases r with _ | _ | _ | r
        · exact ih a1 b1 _ _ hg
        · exact ih a2 b2 _ _ hg
        · exact ih a3 b3 _ _ hg
        · exact ih a4 b4 _ _ hg
      | e => rw [show maskT (d + 1) (.n a1 a2 a3 a4) .e = .e from rfl, get_e'] at hg; cases hg
      | t x => rw [show maskT (d + 1) (.n a1 a2 a3 a4) (.t x) = .e from rfl, get_e'] at hg; cases hg
    | e => rw [show maskT (d + 1) .e t = .e from rfl, get_e'] at hg; cases hg
    | t x => rw [show maskT (d + 1) (.t x) t = .e from rfl, get_e'] at hg; cases hg
def edit (l : List (Nat × O)) (n : Nat) (h : H) : H := List.rec (motive := fun _ => T O → H) (fun t => ⟨t, n⟩) (fun x _ ih t => t.setK 9 x.1 x.2 ih) l h.heap
/-- the run of a function, cut down to the blocks of m -/
def runK (E : Env) (n : Nat) (f : FuncId) (as : List V) (h : H) (m : T O) : R (V × H) :=
  Option.casesOn (E.body f) (.no 777) fun c => plain (R.bind (callBody E (run E n) c as h) fun r => .ok (r.1, ⟨maskT 9 m r.2.heap, r.2.next⟩))
theorem callTo_runK (K : EnvOk P E) (hm : P.follows .mixedOrders = true) {n : Nat} {f : FuncId} {as : List V} {m : T O} (e : runK E n f as h m = .ok (v, h')) : CallTo P f as h v h' := by
  obtain ⟨c, hb, e⟩ := opt_ok (x := E.body f) e
  rw [plain_eq] at e
  obtain ⟨⟨v1, h1⟩, e1, e2⟩ := bind_ok e
  cases e2
  intro φ w I hfa mm fr cs s hs a
  obtain ⟨c, rs, ms, lv⟩ := c
  obtain ⟨fn, b1, b2, b3, b4, b5⟩ := K.bodies f c rs ms lv hb
  have hst : step P mm = .next (lone (Frame.enter P f (concL φ as).toArray .normal) (fr :: cs) w) := by
    refine a.enter f _ w (hs.trans ?_)
    have h2 : fn.name ≠ "runtime.NumGoroutine" := by simpa using b2
    simp [callFunc, b1, h2, b3]
  obtain ⟨φ', w', x1, x2, x3, x4⟩ := callBody_gives K.tys (sound_run K hm n) b1 b3 b4 b5 I hfa e1 hst
  have hs := maskT_get 9 m h1.heap
  exact ⟨φ', w', x1.forget hs rfl, x2.forget hs rfl, x3, x4⟩
def lookupK (l : List Known) (f : FuncId) (as : List V) (h : H) : Option (V × H) :=
  List.rec (motive := fun _ => Option (V × H)) none (fun k _ r => Bool.casesOn (and (Nat.beq k.f f) (and (eqL as k.as) (eqH h k.h))) r (some (k.v, k.h'))) l
theorem lookupK_good {f : FuncId} (l : List Known) (hl : ∀ k ∈ l, k.ok P) : GoodHook P f fun as h => lookupK l f as h := by
  intro as h v h' e
  induction l with
  | nil => cases e
  | cons k l ih =>
    have e : (Bool.casesOn (and (Nat.beq k.f f) (and (eqL as k.as) (eqH h k.h))) (lookupK l f as h) (some (k.v, k.h')) : Option (V × H)) = some (v, h') := e
    cases hb : and (Nat.beq k.f f) (and (eqL as k.as) (eqH h k.h)) with
    | false => rw [hb] at e; exact ih (fun k hk => hl k (List.mem_cons_of_mem _ hk)) e
    | true =>
      rw [hb] at e
      cases e
      obtain ⟨h0, h1⟩ := and_ok hb
      obtain ⟨h1, h2⟩ := and_ok h1
      have h4 := hl k (List.mem_cons_self ..)
      unfold Known.ok at h4
      rw [beq_eq h0] at h4
      rw [eqL_eq _ _ h1, eqH_eq h2]
      exact h4
/-- a call at the heap without blocks, told of at every heap -/
theorem pure_good {f : FuncId} {as : List V} {h1 : H} (c : CallTo P f as ⟨.e, 0⟩ v h1) (hfa : ∀ φ D, fineL φ D as) (hfv : ∀ φ D, fineV φ D v) : CallTo P f as h v h := by
  intro φ w I _ m fr cs s hs a
  obtain ⟨φ', w', x1, x2, x3, x4⟩ := c φ w (Inv.empty φ w) (hfa φ _) m fr cs s hs a
  obtain ⟨y1, y2⟩ := I.beside x1
  refine ⟨φ, w', y1, y2, hfv φ _, ?_⟩
  have : conc φ' v = conc φ v := conc_same (D := fun _ => False) (fun _ h => h.elim) v (hfv φ _)
  rw [← this]; exact x4
end
end Go.Vint
namespace Go.Vint
noncomputable section
variable {P : Program} {E : Env} {φ φ' φ0 : Phi} {D : Nat → Prop} {w w' w0 : World} {h h' h0 : H} {v : V} {ih : Ih}
/-- a table of known calls; of those marked true the heap does not matter -/
def lookupQ (l : List (Bool × Known)) (f : FuncId) (as : List V) (h : H) : Option (V × H) :=
  List.rec (motive := fun _ => Option (V × H)) none (fun e _ r => Prod.casesOn e fun p k => Bool.casesOn (and (Nat.beq k.f f) (eqL as k.as)) r (Bool.casesOn p (Bool.casesOn (eqH h k.h) r (some (k.v, k.h'))) (some (k.v, h)))) l
def entryOk (P : Program) (e : Bool × Known) : Prop := match e.1 with
  | true => ∀ h, CallTo P e.2.f e.2.as h e.2.v h
  | false => e.2.ok P
theorem lookupQ_good {f : FuncId} (l : List (Bool × Known)) (hl : ∀ k ∈ l, entryOk P k) : GoodHook P f fun as h => lookupQ l f as h := by
  intro as h v h' e
  induction l with
  | nil => cases e
  | cons x l ih =>
    obtain ⟨p, k⟩ := x
    have rest := fun e => ih (fun k hk => hl k (List.mem_cons_of_mem _ hk)) e
    have hk := hl (p, k) (List.mem_cons_self ..)
    have e : (Bool.casesOn (and (Nat.beq k.f f) (eqL as k.as)) (lookupQ l f as h) (Bool.casesOn p (Bool.casesOn (eqH h k.h) (lookupQ l f as h) (some (k.v, k.h'))) (some (k.v, h))) : Option (V × H)) = some (v, h') := e
    cases hb : and (Nat.beq k.f f) (eqL as k.as) with
    | false => rw [hb] at e; exact rest e
    | true =>
      rw [hb] at e
      obtain ⟨h0, h1⟩ := and_ok hb
      have e : (Bool.casesOn p (Bool.casesOn (eqH h k.h) (lookupQ l f as h) (some (k.v, k.h'))) (some (k.v, h)) : Option (V × H)) = some (v, h') := e
      cases p with
      | true =>
        cases e
        have hk : ∀ h, CallTo P k.f k.as h k.v h := hk
        rw [eqL_eq _ _ h1, ← beq_eq h0]
        exact hk _
      | false =>
        have e : (Bool.casesOn (eqH h k.h) (lookupQ l f as h) (some (k.v, k.h')) : Option (V × H)) = some (v, h') := e
        cases he : eqH h k.h with
        | false => rw [he] at e; exact rest e
        | true =>
          rw [he] at e
          cases e
          have hk : k.ok P := hk
          unfold Known.ok at hk
          rw [beq_eq h0] at hk
          rw [eqL_eq _ _ h1, eqH_eq he]
          exact hk
end
end Go.Vint
namespace Go.Vint
open Go.RowKit
noncomputable section
variable {P : Program} {E : Env} {φ φ' φ0 : Phi} {D : Nat → Prop} {w w' w0 : World} {h h' h0 : H} {v : V} {ih : Ih}
/-- bytealg.MakeNoZero: a new row of bytes, whatever they are -/
def hMake0 (el : TypeId) (as : List V) (h : H) : Option (V × H) := match as with
  | [.int k n] => Int.casesOn n (fun n => Bool.casesOn (and (sameK k .i64) (Nat.ble n 1000000)) none
      (R.casesOn (motive := fun _ => Option (V × H)) (H.new h (.cells [] el true 0 0) fun b h => .ok (.gs b 0 1 n, h)) (fun r => some r) fun _ => none)) fun _ => none
  | _ => none
theorem extern_ef_good {f : FuncId} {fn : Func} {e : Array Value → Sem Value} {g : List V → H → Option (V × H)} (hf : P.funcs[f]? = some fn) (hname : (fn.name == "runtime.NumGoroutine") = false)
    (hb : fn.body.isNone = true) (hn : Extern.findNext fn = none) (he : Extern.find fn = some e)
    (hr : ∀ as h v h', g as h = some (v, h') → ∀ φ w, Inv P φ h w → fineL φ (· < h.next) as → Ef P φ h w (do pure (.value (← e (concL φ as).toArray))) v h') : GoodHook P f g := by
  intro as h v h' hg φ w I hfa m fr cs s hs a
  exact hook_extern hf hname hb hn he (hr as h v h' hg φ w I hfa) hs a
theorem hMake0_ef {ps : Array TypeId} {t el : TypeId} (ht : P.underlying t = some (.slice el)) (hi : ∃ i, P.info? el = some i ∧ i.size = 1) : ∀ as h v h', hMake0 el as h = some (v, h') → ∀ φ w, Inv P φ h w → fineL φ (· < h.next) as →
    Ef P φ h w (do pure (.value (← Extern.BytealgMakeNoZero.makeNoZero ps #[t] (concL φ as).toArray))) v h' := by
  intro as h v h' e φ w I hfa0
  unfold hMake0 at e
  split at e
  case h_2 => cases e
  rename_i k n
  cases n with
  | negSucc n => cases e
  | ofNat n =>
    obtain ⟨c1, e1⟩ := bool_some (x := and (sameK k .i64) (Nat.ble n 1000000)) e
    obtain ⟨c1, c2⟩ := and_ok c1
    have c2 : n ≤ 1000000 := ble_le c2
    cases hnw : (H.new h (.cells [] el true 0 0) fun b h => (.ok (.gs b 0 1 n, h) : R (V × H))) with
    | no c => rw [hnw] at e1; cases e1
    | ok r =>
      rw [hnw] at e1
      cases e1
      obtain ⟨n1, n2⟩ := H.new_ok hnw
      cases n2
      obtain ⟨cs, hrun, hge, _⟩ := Lib.run_makeNoZero (P := P) w ps t el ht n (by omega)
      obtain ⟨inf, hinf, hsz⟩ := hi
      have hw : w.drew.drew.alloc (.cells cs el) = push (dr (dr w)) (.cells cs el) := rfl
      rw [hw] at hrun
      have J : Inv P φ h (dr (dr w)) := I.dr.dr
      have hK : (φ.up h.next (dr (dr w)).heap.size 0 cs.size).K h.next = cs.size := by simp [Phi.up]
      have hoff : (φ.up h.next (dr (dr w)).heap.size 0 cs.size).off h.next = 0 := by simp [Phi.up]
      have hblk : (φ.up h.next (dr (dr w)).heap.size 0 cs.size).blk h.next = w.heap.size := by simp [Phi.up]; rfl
      obtain ⟨X1, J1⟩ := J.new (o := .cells [] el true 0 0) (c := .cells cs el) (K := cs.size) n1 (by simp [fineO, fineL]) (by
        refine ⟨cs, 0, 0, rfl, fun i v hv => by simp at hv, ⟨Nat.le_refl _, fun h => absurd h (by omega)⟩, fun _ => ⟨hoff, inf, hinf, ?_, ?_⟩, by simp⟩
        · simp
        · rw [hK, hsz]; omega)
      have X : Ext φ h w (φ.up h.next (dr (dr w)).heap.size 0 cs.size) (h.add (.cells [] el true 0 0)) (push (dr (dr w)) (.cells cs el)) :=
        Ext.trans I.mem.llt (Ext.dr I) (Ext.trans I.mem.llt (Ext.dr I.dr) X1)
      refine Ef.val (φ' := φ.up h.next (dr (dr w)).heap.size 0 cs.size) (w' := push (dr (dr w)) (.cells cs el)) ?_ X J1 ?_
      · simp only [concL, conc]
        rw [sameK_eq c1, hblk, hoff, hK]
        simpa using hrun
      · simp only [fineV]
        refine ⟨Nat.lt_succ_self _, ?_⟩
        rw [hK]; omega
end
end Go.Vint
namespace Go.Vint
open Go.RowKit
noncomputable section
variable {P : Program} {E : Env} {φ φ' φ0 : Phi} {w w' : World} {h h' : H} {v : V}
/-- does the run come to true? -/
def truthK (E : Env) (n : Nat) (f : FuncId) (as : List V) (h : H) : Bool :=
  Option.casesOn (E.body f) false fun c => R.casesOn (callBody E (run E n) c as h) (fun r => Prod.casesOn r fun v _ => match v with | .bool b => b | _ => false) fun _ => false
theorem Inv.bare (φ : Phi) (w : World) {n : Nat} (hn : n ≤ 262144) : Inv P φ ⟨.e, n⟩ w := by
  have hg : ∀ b, (⟨.e, n⟩ : H).get b = none := fun b => T.get_e 9 b
  refine ⟨⟨fun b o hb => ?_, fun b o hb => ?_, hn, fun b b' hb _ _ => ?_⟩, fun b o hb => ?_⟩
  · rw [hg] at hb; cases hb
  · rw [hg] at hb; cases hb
  · obtain ⟨o, ho, _⟩ := hb; rw [hg] at ho; cases ho
  · rw [hg] at hb; cases hb
theorem truth_calls (K : EnvOk P E) (hm : P.follows .mixedOrders = true) {n m : Nat} {f : FuncId} {as : List V} (hm' : m ≤ 262144) (e : truthK E n f as ⟨.e, m⟩ = true) (hfa : fineL φ (· < m) as) :
    Calls P f (concL φ as).toArray w fun e w' => e = .returned (.bool true) ∧ Below w.heap.size w w' := by
  unfold truthK at e
  cases hb : E.body f with
  | none => rw [hb] at e; cases e
  | some c =>
    rw [hb] at e
    have e : (R.casesOn (callBody E (run E n) c as ⟨.e, m⟩) (fun r => Prod.casesOn r fun v _ => match v with | .bool b => b | _ => false) fun _ => false : Bool) = true := e
    cases hc : callBody E (run E n) c as ⟨.e, m⟩ with
    | no w => rw [hc] at e; cases e
    | ok r =>
      rw [hc] at e
      obtain ⟨v, h'⟩ := r
      have hv : v = .bool true := by
        cases v <;> first | (cases e; done) | skip
        rename_i b
        have e : b = true := e
        rw [e]
      subst hv
      have hg : ∀ b, (⟨.e, m⟩ : H).get b = none := fun b => T.get_e 9 b
      refine (sound_calls K hm hb (Inv.bare φ w hm') hfa hc).mono ?_
      rintro en w' ⟨φ', rfl, X, _, _⟩
      refine ⟨by simp [conc], X.os, X.tape, X.output, X.size, fun c hc => X.keep c hc fun b hb => ?_⟩
      obtain ⟨o, ho, _⟩ := hb
      rw [hg] at ho; cases ho
theorem str_of (b : ByteArray) : ∃ s : Str, s.val = b := by
  refine ⟨⟨packL b.data.toList, b.data.toList.length⟩, ?_⟩
  unfold Str.val
  rw [bytes_pack]
end
end Go.Vint
namespace Go.Vint
open Go.RowKit
noncomputable section
variable {P : Program} {E : Env} {φ φ' φ0 : Phi} {w w' w'' : World} {h h' : H} {v : V}

/-! ## Calls that are known, for a walk by hand: the heap that is left stands in the world -/
theorem calls_runK (K : EnvOk P E) (hm : P.follows .mixedOrders = true) {n : Nat} {f : FuncId} {as : List V} {m : T O} (e : runK E n f as h m = .ok (v, h')) (I : Inv P φ h w) (hfa : fineL φ (· < h.next) as) :
    Calls P f (concL φ as).toArray w fun en w' => ∃ φ', en = .returned (conc φ' v) ∧ Ext φ h w φ' h' w' ∧ Inv P φ' h' w' ∧ fineV φ' (· < h'.next) v := by
  obtain ⟨c, hb, e⟩ := opt_ok (x := E.body f) e
  rw [plain_eq] at e
  obtain ⟨⟨v1, h1⟩, e1, e2⟩ := bind_ok e
  cases e2
  have hs := maskT_get 9 m h1.heap
  refine (sound_calls K hm hb I hfa e1).mono ?_
  rintro en w' ⟨φ', x0, x1, x2, x3⟩
  exact ⟨φ', x0, x1.forget hs rfl, x2.forget hs rfl, x3⟩
/-- does the run end, and is what it comes to so? -/
def endB (E : Env) (n : Nat) (f : FuncId) (as : List V) (h : H) (p : V → H → Bool) : Bool :=
  Option.casesOn (E.body f) false fun c => R.casesOn (callBody E (run E n) c as h) (fun r => Prod.casesOn r p) fun _ => false
theorem endB_calls (K : EnvOk P E) (hm : P.follows .mixedOrders = true) {n : Nat} {f : FuncId} {as : List V} {p : V → H → Bool} (e : endB E n f as h p = true) (I : Inv P φ h w) (hfa : fineL φ (· < h.next) as) :
    Calls P f (concL φ as).toArray w fun en w' => ∃ φ' v h', p v h' = true ∧ en = .returned (conc φ' v) ∧ Ext φ h w φ' h' w' ∧ Inv P φ' h' w' ∧ fineV φ' (· < h'.next) v := by
  unfold endB at e
  cases hb : E.body f with
  | none => rw [hb] at e; cases e
  | some c =>
    rw [hb] at e
    have e : (R.casesOn (callBody E (run E n) c as h) (fun r => Prod.casesOn r p) fun _ => false : Bool) = true := e
    cases hc : callBody E (run E n) c as h with
    | no w => rw [hc] at e; cases e
    | ok r =>
      rw [hc] at e
      obtain ⟨v, h'⟩ := r
      refine (sound_calls K hm hb I hfa hc).mono ?_
      rintro en w' ⟨φ', x0, x1, x2, x3⟩
      exact ⟨φ', v, h', e, x0, x1, x2, x3⟩
def isInt (r : Nat) (v : V) : Bool := match v with | .int k n => Int.casesOn n (fun m => and (sameK k .i64) (Nat.beq m r)) fun _ => false | _ => false
def isNils (v : V) : Bool := match v with | .nils => true | _ => false
theorem isInt_eq {r : Nat} {v : V} (e : isInt r v = true) : v = .int .i64 r := by
  unfold isInt at e
  split at e
  · rename_i k n
    cases n with
    | ofNat m =>
      have e : and (sameK k .i64) (Nat.beq m r) = true := e
      obtain ⟨e1, e2⟩ := and_ok e
      rw [sameK_eq e1, beq_eq e2]; rfl
    | negSucc m => cases e
  · cases e
theorem isNils_eq {v : V} (e : isNils v = true) : v = .nils := by
  unfold isNils at e
  split at e
  · rfl
  · cases e
theorem bare_none {m : Nat} (b : Nat) : (⟨.e, m⟩ : H).get b = none := T.get_e 9 b
theorem ext_below {m : Nat} (X : Ext φ ⟨.e, m⟩ w φ' h' w') : Below w.heap.size w w' := by
  refine ⟨X.os, X.tape, X.output, X.size, fun c hc => X.keep c hc fun b hb => ?_⟩
  obtain ⟨o, ho, _⟩ := hb
  rw [bare_none] at ho; cases ho
/-- what is known of a world behind runs that began at a heap without blocks, in a world below W -/
def Left (P : Program) (W : World) (h : H) (φ : Phi) (w : World) : Prop := ∃ Wb φ0, Below W.heap.size W Wb ∧ Ext φ0 ⟨.e, 0⟩ Wb φ h w ∧ Inv P φ h w
theorem Left.below {W : World} (s : Left P W h φ w) : Below W.heap.size W w := by
  obtain ⟨Wb, φ0, hb, X, _⟩ := s
  exact hb.trans ((ext_below X).mono hb.size)
theorem Left.step {W : World} (s : Left P W h φ w) (X : Ext φ h w φ' h' w') (I : Inv P φ' h' w') : Left P W h' φ' w' := by
  obtain ⟨Wb, φ0, hb, X0, _⟩ := s
  refine ⟨Wb, φ0, hb, Ext.trans (fun b hl => ?_) X0 X, I⟩
  obtain ⟨o, ho, _⟩ := hl
  rw [bare_none] at ho; cases ho
theorem Left.first {W : World} (hb : Below W.heap.size W w) (X : Ext φ0 ⟨.e, 0⟩ w φ h w') (I : Inv P φ h w') : Left P W h φ w' := ⟨w, φ0, hb, X, I⟩
end
end Go.Vint
