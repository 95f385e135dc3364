/- A runner of programs for the kernel, and that what it tells is so: part 2. It says nothing of one program. Conditions stand with each theorem. -/
import Derived.Test.YtdomphkodeamgaaGreatDoorVintA
import Derived.Laws.BytesArg
import Derived.Orders
import Derived.Laws.Externs
namespace Go.Vint
variable {P : Program} {E : Env} {φ : Phi} {D : Nat → Prop} {w : World}

theorem H.live_lt {h : H} {w : World} (I : Inv P φ h w) {b : Nat} {o : O} (hb : h.get b = some o) : b < h.next := I.mem.lt b o hb
theorem Inv.tail {h : H} (I : Inv P φ h w) (hn : h.next < 262144) (blk off K : Nat) :
    Ext φ h w (φ.up h.next blk off K) (h.add .dead) w ∧ Inv P (φ.up h.next blk off K) (h.add .dead) w := by
  have hs := Phi.up_same φ h.next blk off K
  have hblk : ∀ k, k < h.next → (φ.up h.next blk off K).blk k = φ.blk k := fun k hk => (hs k hk).1
  have hD : ∀ a, a < h.next → a < (h.add .dead).next := fun a ha => by show a < h.next + 1; omega
  have hget : ∀ k, (h.add .dead).get k = if k = h.next then some .dead else h.get k := fun k => H.get_add _ _ _ hn
  have wr : ∀ k, Wr (h.add .dead) k → Wr h k ∧ k < h.next := by
    rintro k ⟨x, hx, hw⟩
    rw [hget] at hx
    by_cases hk : k = h.next
    · rw [if_pos hk] at hx; cases hx; cases hw
    · rw [if_neg hk] at hx; exact ⟨⟨x, hx, hw⟩, I.mem.lt k x hx⟩
  have lv : ∀ k, Live (h.add .dead) k → Live h k ∧ k < h.next := by
    rintro k ⟨x, hx, hw⟩
    rw [hget] at hx
    by_cases hk : k = h.next
    · rw [if_pos hk] at hx; cases hx; exact absurd rfl hw
    · rw [if_neg hk] at hx; exact ⟨⟨x, hx, hw⟩, I.mem.lt k x hx⟩
  refine ⟨⟨by simp, hs, Nat.le_refl _, fun _ _ _ => rfl, fun b hb hw => by have := (wr b hw).2; omega, fun b _ hw => (wr b hw).1, rfl, rfl, rfl, fun b _ hw => (lv b hw).1, fun b hb hw => by have := (lv b hw).2; omega⟩, ⟨⟨?_, ?_, ?_, ?_⟩, ?_⟩⟩
  · intro b x hx
    rw [hget] at hx
    by_cases hk : b = h.next
    · rw [if_pos hk] at hx; cases hx; trivial
    · rw [if_neg hk] at hx
      have hlt := I.mem.lt b x hx
      rw [hblk b hlt]
      exact ORel_same (P := P) hs hlt (I.fine b x hx) (I.mem.rel b x hx)
  · intro b x hx
    rw [hget] at hx
    show b < h.next + 1
    by_cases hk : b = h.next
    · omega
    · rw [if_neg hk] at hx
      have := I.mem.lt b x hx; omega
  · show h.next + 1 ≤ 262144; omega
  · intro b b' hb hb' he
    obtain ⟨h1, h2⟩ := wr b hb
    obtain ⟨h3, h4⟩ := lv b' hb'
    rw [hblk b h2, hblk b' h4] at he
    exact I.mem.inj b b' h1 h3 he
  · intro b x hx
    rw [hget] at hx
    by_cases hk : b = h.next
    · rw [if_pos hk] at hx; cases hx; trivial
    · rw [if_neg hk] at hx
      exact fineO_same hs hD (I.fine b x hx)

theorem opSlice_pu (hT : TysOk P E) {h h' : H} {t : TypeId} {x v : V} {lo hi mx : Option V} (hf : fineV φ D x) (hn : h'.next = h.next) (hx : okMx hi mx) (e : opSlice E t x lo hi mx h = .ok (v, h')) :
    Pu P φ D (Instr.sliceAt t (conc φ x) (lo.map (conc φ)) (hi.map (conc φ)) (mx.map (conc φ))) w h v h' := by
  cases x with
  | str s =>
    obtain ⟨i, hi', e1⟩ := ty_ok (E := E) (t := t) (k := fun i => (match i.k with | .str => sliceStr s lo hi mx h | _ => .no 52)) e
    cases hk : i.k with
    | str => rw [hk] at e1; exact (sliceStr_pu (kStr (hT _ _ hi') hk) hx e1)
    | _ => rw [hk] at e1; cases e1
  | nils =>
    obtain ⟨el, ie, hu, _, hie, e1⟩ := sliceElem_ok hT (k := fun _ _ => sliceNil lo hi mx h) e
    exact (sliceNil_pu hT hu hie hx e1)
  | sl b o l c =>
    have e : sliceSl E t b o l c lo hi mx h = .ok (v, h') := e
    exact (sliceSl_pu hT (by simpa [fineV] using hf) hx e)
  | gs b eo z l =>
    have e : sliceGs E t b eo z l lo hi mx h = .ok (v, h') := e
    rcases sliceGs_ok (w := w) hT hf hx e with p | ⟨_, rfl, rfl, o, c, hr⟩
    · exact p
    · have : h.next + 1 = h.next := hn
      omega
  | ptr b o =>
    have e : slicePtr E t b o lo hi mx h = .ok (v, h') := e
    exact (slicePtr_pu hT (by simpa [fineV] using hf) hx e)
  | _ => cases e

theorem opSlice_ef (hT : TysOk P E) {h h' : H} (I : Inv P φ h w) {t : TypeId} {x v : V} {lo hi mx : Option V} (hf : fineV φ (· < h.next) x) (hx : okMx hi mx) (e : opSlice E t x lo hi mx h = .ok (v, h')) :
    Ef P φ h w (do pure (.value (← Instr.sliceAt t (conc φ x) (lo.map (conc φ)) (hi.map (conc φ)) (mx.map (conc φ))))) v h' := by
  cases x with
  | str s =>
    obtain ⟨i, hi', e1⟩ := ty_ok (E := E) (t := t) (k := fun i => (match i.k with | .str => sliceStr s lo hi mx h | _ => .no 52)) e
    cases hk : i.k with
    | str => rw [hk] at e1; exact (sliceStr_pu (kStr (hT _ _ hi') hk) hx e1).ef I
    | _ => rw [hk] at e1; cases e1
  | nils =>
    obtain ⟨el, ie, hu, _, hie, e1⟩ := sliceElem_ok hT (k := fun _ _ => sliceNil lo hi mx h) e
    exact (sliceNil_pu hT hu hie hx e1).ef I
  | sl b o l c =>
    have e : sliceSl E t b o l c lo hi mx h = .ok (v, h') := e
    exact (sliceSl_pu hT (by simpa [fineV] using hf) hx e).ef I
  | gs b eo z l =>
    have e : sliceGs E t b eo z l lo hi mx h = .ok (v, h') := e
    rcases sliceGs_ok (w := w) hT hf hx e with p | ⟨hn, rfl, rfl, o, c, hr⟩
    · exact p.ef I
    · obtain ⟨X, J⟩ := I.tail hn (φ.blk b) o c
      refine Ef.val ?_ X J (by simp only [fineV]; show h.next < h.next + 1; omega)
      refine hr.trans ?_
      simp [conc, Phi.up]
  | ptr b o =>
    have e : slicePtr E t b o lo hi mx h = .ok (v, h') := e
    exact (slicePtr_pu hT (by simpa [fineV] using hf) hx e).ef I
  | _ => cases e

/-! ## Ranges over strings and over empty maps -/
theorem opRange_ef (hT : TysOk P E) {h h' : H} (I : Inv P φ h w) {t : TypeId} {x v : V} (hf : fineV φ (· < h.next) x) (e : opRange E t x h = .ok (v, h')) :
    Ef P φ h w (do pure (.value (← Instr.range t (conc φ x)))) v h' := by
  have fin : ∀ (o : O) (c : Obj), (∀ K, fineO φ (· < h.next) o ∧ ORel P (φ.up h.next w.heap.size 0 K) h.next o (some c)) → (h.new o fun b h => okV (.ptr b 0) h) = .ok (v, h') →
      ∃ φ' w', conc φ' v = .pointer (some ⟨w.heap.size, 0, none⟩) ∧ w' = push w c ∧ Ext φ h w φ' h' w' ∧ Inv P φ' h' w' ∧ fineV φ' (· < h'.next) v := by
    intro o c ho e1
    obtain ⟨hn, e2⟩ := H.new_ok e1
    obtain ⟨rfl, rfl⟩ := okV_ok e2
    obtain ⟨X, J⟩ := I.new (K := 0) (c := c) hn (ho 0).1 (ho 0).2
    exact ⟨_, _, by simp [conc, Phi.up], rfl, X, J, by simp only [fineV]; show h.next < h.next + 1; omega⟩
  cases x with
  | str s =>
    obtain ⟨i, hi', e1⟩ := ty_ok (E := E) (t := t) (k := fun i => (match i.k with | .str => h.new (.siter s 0) fun b h => okV (.ptr b 0) h | _ => .no 97)) e
    cases hk : i.k with
    | str =>
      rw [hk] at e1
      obtain ⟨φ', w', h1, rfl, X, J, h2⟩ := fin (.siter s 0) (.stringIter s.val 0) (fun K => ⟨trivial, by simp [Phi.up], rfl⟩) e1
      refine Ef.val ?_ X J h2
      rw [h1]
      refine runs_bind (runs_underlying (kStr (hT _ _ hi') hk) w) ?_
      simp only [conc]
      exact runs_bind (runs_pure _ w) (runs_bind (runs_newObj _ w) (runs_pure _ _))
    | _ => rw [hk] at e1; cases e1
  | nilm =>
    obtain ⟨kt, el, ik, ie, hu, _, _, e1⟩ := mapTy_ok hT (k := fun _ _ => h.new (.miter none 0 0) fun b h => okV (.ptr b 0) h) e
    obtain ⟨φ', w', h1, rfl, X, J, h2⟩ := fin (.miter none 0 0) (.mapIter none 0 #[] 0) (fun K => ⟨by simp [fineO], by simp [Phi.up], rfl⟩) e1
    refine Ef.val ?_ X J h2
    rw [h1]
    refine runs_bind (runs_underlying hu w) ?_
    simp only [conc]
    exact runs_bind (runs_pure _ w) (runs_bind (runs_newObj _ w) (runs_pure _ _))
  | map m =>
    obtain ⟨kt, el, ik, ie, hu, _, _, e1⟩ := mapTy_ok hT (k := fun _ _ => mapK h m fun _ c => h.new (.miter (some m) c c) fun b h => okV (.ptr b 0) h) e
    obtain ⟨es, c, hb, e2⟩ := mapK_ok e1
    obtain ⟨ces, r1, r2⟩ := I.mem.rel m _ hb
    simp only [fineV] at hf
    obtain ⟨φ', w', h1, rfl, X, J, h2⟩ := fin (.miter (some m) c c) (.mapIter (some (φ.blk m)) c #[] c) (fun K => ⟨by simp only [fineO]; rintro b ⟨⟩; exact hf, by simp [Phi.up], by
      have : m ≠ h.next := by omega
      simp [Phi.up, this]⟩) e2
    refine Ef.val ?_ X J h2
    rw [h1]
    refine runs_bind (runs_underlying hu w) ?_
    simp only [conc]
    exact runs_bind (runs_getObj r1 (by simp)) (runs_bind (runs_pure _ w) (runs_bind (runs_newObj _ w) (runs_pure _ _)))
  | _ =>
    obtain ⟨kt, el, ik, ie, hu, _, _, e1⟩ := mapTy_ok hT (k := fun _ _ => (.no 97 : R (V × H))) e
    cases e1

theorem opNext_ef {h h' : H} (I : Inv P φ h w) {t : TypeId} {x v : V} {str : Bool} (e : opNext x str h = .ok (v, h')) :
    Ef P φ h w (do pure (.value (← Instr.next (conc φ x) str t))) v h' := by
  obtain ⟨b, o, rfl, e1⟩ := asP_ok e
  obtain ⟨ho, e2⟩ := chk_ok e1
  have ho := beq_eq ho
  subst ho
  obtain ⟨ob, hb, e3⟩ := opt_ok (x := h.get b) e2
  have hrel := I.mem.rel b _ hb
  have hover : ∀ w', Inv P φ h w' → Ext φ h w φ h w' → v = .tup [.bool false] → h' = h → Runs P (Instr.next (conc φ (.ptr b 0)) str t) w (.tuple #[.bool false]) w' →
      Ef P φ h w (do pure (.value (← Instr.next (conc φ (.ptr b 0)) str t))) v h' := by
    rintro w' J X rfl rfl hr
    exact Ef.val (hr.trans (by simp [conc, concL])) X J (by simp [fineV, fineL])
  cases ob with
  | miter m s l =>
    obtain ⟨hs, e4⟩ := chk_ok e3
    cases str with
    | true => cases hs
    | false =>
      obtain ⟨h0, r1⟩ := hrel
      cases m with
      | none =>
        obtain ⟨rfl, rfl⟩ := okV_ok e4
        refine hover w I (Ext.refl _ _ _ I.mem.llt) rfl rfl ?_
        simp only [conc, h0]
        exact runs_bind (runs_getObj r1 (by simp)) (runs_pure _ w)
      | some m =>
        obtain ⟨es, c, hm, e5⟩ := mapK_ok e4
        obtain ⟨ces, q1, q2⟩ := I.mem.rel m _ hm
        cases es with
        | cons _ _ => cases e5
        | nil =>
          obtain ⟨rfl, rfl⟩ := okV_ok e5
          have : ces = #[] := Array.toList_inj.1 (by simpa using q2)
          subst this
          refine hover w I (Ext.refl _ _ _ I.mem.llt) rfl rfl ?_
          simp only [conc, h0]
          refine runs_bind (runs_getObj r1 (by simp)) ?_
          dsimp only
          refine runs_bind (runs_getObj q1 (by simp)) ?_
          have f : ∀ p : MapEntry → Bool, (#[] : Array MapEntry).filter p = #[] := fun p => rfl
          simp only [f]
          rw [if_neg (by simp)]
          refine runs_bind (a := 0) (w1 := w) ?_ ?_
          · have g : Runs P (choose (Question.mapNext 1)) w 0 w := rfl
            simpa using g
          · simp
            exact runs_pure _ _
  | siter s pos =>
    obtain ⟨hs, e4⟩ := chk_ok e3
    subst hs
    obtain ⟨h0, r1⟩ := hrel
    cases hlt : Nat.ble (Nat.succ pos) s.len with
    | false =>
      rw [hlt] at e4
      obtain ⟨rfl, rfl⟩ := okV_ok e4
      refine hover w I (Ext.refl _ _ _ I.mem.llt) rfl rfl ?_
      simp only [conc, h0]
      refine runs_bind (runs_getObj r1 (by simp)) ?_
      dsimp only
      rw [if_neg (by
        rw [Str.val_size]
        intro h
        rw [Nat.ble_eq_true_of_le (show pos + 1 ≤ s.len from h)] at hlt; cases hlt)]
      exact runs_pure _ w
    | true =>
      rw [hlt] at e4
      have e4 : (seqNat (s.at pos) fun c => chk (Nat.ble c 127) 100 (h.set b (.siter s (Nat.succ pos)) fun h => okV (.tup [.bool true, .int .i64 (.ofNat pos), .int .i32 (.ofNat c)]) h)) = .ok (v, h') := e4
      rw [seqNat_eq] at e4
      obtain ⟨hc, e5⟩ := chk_ok e4
      rw [H.set_eq] at e5
      obtain ⟨rfl, rfl⟩ := okV_ok e5
      have hc : s.at pos ≤ 127 := ble_le hc
      have hlt := ble_le hlt
      obtain ⟨X, J⟩ := I.put (b := b) (o := .siter s (pos + 1)) (c := .stringIter s.val (pos + 1)) ⟨_, hb, rfl⟩ trivial ⟨h0, rfl⟩
      refine Ef.val ?_ X J (by simp [fineV, fineL])
      simp only [conc, h0]
      refine runs_bind (runs_getObj r1 (by simp)) ?_
      dsimp only
      rw [if_pos (by rw [Str.val_size]; exact hlt)]
      have hd : Utf8.decode s.val pos = (s.at pos, 1) := by
        have hg : (s.val.get! (pos + 0)).toNat = s.at pos := by
          have hb : s.val.data.toList[pos]? = some (UInt8.ofNat (s.at pos)) := by
            have := Str.bytes_get s pos
            rw [if_pos (show pos < s.len from hlt)] at this
            rw [← this]; rfl
          have e : s.val.get! (pos + 0) = (s.val.data[pos]?).getD default := by
            rw [Nat.add_zero]
            cases s.val with
            | mk d => show d[pos]! = d[pos]?.getD default; simp [Array.getElem!_eq_getD]
          rw [e, ← Array.getElem?_toList, hb]
          exact Str.toNat_at s pos
        unfold Utf8.decode
        dsimp only
        rw [if_pos (by rw [hg]; omega), hg]
      rw [hd]
      refine runs_bind (runs_setObj r1 (by simp)) ?_
      exact runs_eq (by simp [concL, conc, goInt]) _
  | _ => cases e3
end Go.Vint
namespace Go.Vint
variable {P : Program} {E : Env} {φ : Phi} {D : Nat → Prop} {w : World}

theorem asU8_ok {β : Type} {v : V} {k : Nat → R β} {r : β} (h : asU8 v k = .ok r) : ∃ n, v = .int .u8 (.ofNat n) ∧ k n = .ok r := by
  cases v with
  | int d n => cases d <;> first | (cases n with | ofNat n => exact ⟨n, rfl, h⟩ | negSucc n => cases h) | cases h
  | _ => cases h
theorem bytesK_ok {β : Type} (l : List V) : ∀ {k : Nat → R β} {r : β}, bytesK l k = .ok r → ∃ ns : List Nat, l = ns.map (fun n => V.int .u8 (.ofNat n)) ∧ k (packL (ns.map UInt8.ofNat)) = .ok r := by
  induction l with
  | nil => intro k r h; exact ⟨[], rfl, h⟩
  | cons v l ih =>
    intro k r h
    have h : asU8 v (fun c => bytesK l fun n => seqNat (Nat.add (Nat.mod c 256) (Nat.mul 256 n)) k) = .ok r := h
    obtain ⟨n, rfl, h1⟩ := asU8_ok h
    obtain ⟨ns, rfl, h2⟩ := ih h1
    rw [seqNat_eq] at h2
    refine ⟨n :: ns, rfl, ?_⟩
    have : packL ((n :: ns).map UInt8.ofNat) = n % 256 + 256 * packL (ns.map UInt8.ofNat) := by
      show (UInt8.ofNat n).toNat + 256 * packL _ = _
      simp
    rw [this]; exact h2

theorem bytes_val (ns : List Nat) {n : Nat} (hn : ns.length = n) : (Str.mk (packL (ns.map UInt8.ofNat)) n).val = ⟨(ns.map UInt8.ofNat).toArray⟩ := by
  subst hn
  unfold Str.val
  have := bytes_pack (ns.map UInt8.ofNat)
  rw [List.length_map] at this
  rw [this]
theorem runs_bytes {b o n cap : Nat} {ns : List Nat} (hn : ns.length = n) (h : Runs P (loadCells ⟨b, o, none⟩ n) w (concL φ (ns.map fun n => V.int .u8 (.ofNat n))).toArray w) :
    Runs P (Conv.bytesToString (.slice (some ⟨b, o, none⟩) n cap)) w (.string (Str.mk (packL (ns.map UInt8.ofNat)) n).val) w := by
  have e : (concL φ (ns.map fun n => V.int .u8 (.ofNat n))) = (ns.map Int.ofNat).map (Value.int .u8) := by
    simp [concL_eq, conc]
  rw [e] at h
  refine (run_bytesToString w _ n cap (ns.map Int.ofNat) h).trans ?_
  rw [foldl_push_bytes, bytes_val _ hn]
  congr 2
  simp [ByteArray.empty, ByteArray.emptyWithCapacity, Function.comp_def]
  rfl

theorem runs_shape {b : Nat} {ccs : Array Value} {el : TypeId} {f : Nat × Nat} (h : w.heap[b]? = some (.cells ccs el f)) : Runs P (shape b) w (some (el, ccs.size)) w := by
  show Sem.run P (.shape b .pure) w = _
  simp only [Sem.run, World.shape?, h]
theorem runs_viewAt {b : Nat} {ccs : Array Value} {el : TypeId} {f : Nat × Nat} (h : w.heap[b]? = some (.cells ccs el f)) : Runs P (viewAt b) w none w := by
  refine runs_bind (runs_shape h) ?_
  rfl
theorem runs_seenAt {a : Addr} {ccs : Array Value} {el : TypeId} {f : Nat × Nat} (h : w.heap[a.block]? = some (.cells ccs el f)) : Runs P (Conv.seenAt a) w a w := by
  refine runs_bind (runs_viewAt h) ?_
  rfl

/-- a pointer to a whole block of its own type -/
theorem whole_ok {h : H} (m : Mem P φ h w) {b o : Nat} {cs : List V} {e e' : TypeId} {g : Bool} {fl fh : Nat} {ie : TI} (hb : h.get b = some (.cells cs e' g fl fh))
    (hc : and (not g) (and (Nat.ble fh 9223372036854775807) (and (Nat.beq e e') (and (Nat.beq o 0) (and (Nat.beq (lenL cs) ie.size) (Nat.ble 1 ie.size))))) = true) :
    ∃ ccs f, o = 0 ∧ φ.off b = 0 ∧ w.heap[φ.blk b]? = some (.cells ccs e f) ∧ ccs.size = ie.size ∧ 1 ≤ ie.size := by
  obtain ⟨c1, hc⟩ := and_ok hc
  obtain ⟨c2, hc⟩ := and_ok hc
  obtain ⟨c3, hc⟩ := and_ok hc
  obtain ⟨c4, hc⟩ := and_ok hc
  obtain ⟨c5, c6⟩ := and_ok hc
  have c2 := ble_le c2
  have c3 := beq_eq c3
  have c4 := beq_eq c4
  have c5 := beq_eq c5
  have c6 := ble_le c6
  rw [lenL_eq] at c5
  obtain ⟨ccs, lo, hi, r1, r2, r3, r4, r5⟩ := m.rel b _ hb
  have hg : g = false := by cases g with | true => cases c1 | false => rfl
  obtain ⟨p1, p2⟩ := r5 hg (show fh < 9223372036854775808 by omega)
  subst c3
  exact ⟨ccs, _, c4, p1, r1, p2.trans c5, c6⟩

theorem cells_of_str' (u : Str) : ∃ ce : Array Value, (u.val.data.map fun b => Value.int .u8 b.toNat) = ce ∧ (∀ (φ' : Phi) (j : Nat) (v : V), ((List.range u.len).map fun j => V.int .u8 (.ofNat (u.at (0 + j))))[j]? = some v → ∀ m : Nat, (ce ++ Array.replicate m (.int .u8 0))[j]? = some (conc φ' v)) ∧
    (∀ m : Nat, u.len ≤ m → (ce ++ Array.replicate (m - u.len) (Value.int .u8 0)).size = m) := by
  refine ⟨_, rfl, fun φ' j v hv m => ?_, fun m hm => ?_⟩
  · rw [List.getElem?_map] at hv
    have hj : j < u.len := by
      rcases Nat.lt_or_ge j u.len with h | h
      · exact h
      · rw [List.getElem?_eq_none (by simpa using h)] at hv; cases hv
    rw [List.getElem?_range hj] at hv
    cases hv
    rw [Array.getElem?_append_left (by have := Str.val_size u; simp only [Array.size_map]; exact Nat.lt_of_lt_of_eq hj this.symm)]
    rw [← Array.getElem?_toList, Array.toList_map, List.getElem?_map]
    have hb : u.val.data.toList[j]? = some (UInt8.ofNat (u.at j)) := by
      have := Str.bytes_get u j
      rw [if_pos hj] at this
      rw [← this]; rfl
    rw [hb]
    simp only [Option.map_some, conc, Str.toNat_at, Nat.zero_add]
    rfl
  · have : u.val.data.size = u.len := Str.val_size u
    simp only [Array.size_append, Array.size_map, Array.size_replicate, this]
    omega
theorem runs_mark {cs : Array Value} {el : TypeId} {n : Nat} (hn : cs.size = n) :
    Runs P (markStringish ⟨w.heap.size, 0, none⟩) (push w (.cells cs el)) () (push w (.cells cs el (n, n + 1))) := by
  have hg : (push w (.cells cs el)).heap[w.heap.size]? = some (.cells cs el) := by rw [push_get, if_pos rfl]
  refine runs_bind (runs_shape hg) ?_
  show Sem.run P (.freeze _ 1 (.pure ())) _ = _
  simp only [Sem.run, World.freeze, hn]
  rw [if_neg (by omega)]
  congr 1
  unfold push
  congr 1
  apply Array.ext_getElem?
  intro i
  rw [Array.getElem?_modify, Array.getElem?_push, Array.getElem?_push]
  by_cases hi : i = w.heap.size
  · subst hi; simp
  · rw [if_neg (fun h => hi h.symm), if_neg hi, if_neg hi]
theorem opConv_split (hT : TysOk P E) (hV : ∀ e, E.view e = true → liesAt P P.depth e 1 0 e 1 = true) {h h' : H} (m : Mem P φ h w) (hH : fineH φ D h) {s d : TypeId} {x v : V} (hf : fineV φ D x) (e : opConv E s d x h = .ok (v, h')) :
    Pu P φ D (convert s d (conc φ x)) w h v h' ∨ (∃ el ie u, x = .str u ∧ P.underlying d = some (.slice el) ∧ TyOk P el ie ∧ ie.k = .int .u8 ∧ ie.size = 1 ∧
      (h.new (.cells ((List.range u.len).map fun j => V.int .u8 (.ofNat (u.at (0 + j)))) el true u.len 9223372036854775808) fun b h => okV (.gs b 0 1 u.len) h) = .ok (v, h') ∧
      ∀ {r w'}, Runs P (Conv.stringToBytes el u.val) w r w' → Runs P (convert s d (conc φ x)) w r w') := by
  obtain ⟨is, his, e0⟩ := ty_ok (E := E) (t := s) e
  obtain ⟨i, hi, e1⟩ := ty_ok (E := E) (t := d) e0
  have hts := hT _ _ his
  have hti := hT _ _ hi
  obtain ⟨sd, hsd, hsk, _⟩ := hts.und
  have start : ∀ (dd : TypeDesc) {r : Value} {w' : World}, P.underlying d = some dd → Runs P (match sd, dd, conc φ x with
      | _, .int k, .int _ n => Conv.intToInt k n
      | _, .float k, .int _ n => Conv.intToFloat k n
      | _, .int k, .float s b => Conv.floatToInt s b k
      | _, .float k, .float s b => Conv.floatToFloat s b k
      | _, .complex k, .complex s a b => Conv.complexToComplex s a b k
      | _, .string, .int _ n => Conv.intToString n
      | _, .string, .string _ => pure (conc φ x)
      | _, .slice e, .string s => do
        match ← underlying e with
        | .int .u8 => Conv.stringToBytes e s
        | .int .i32 => Conv.stringToRunes e s
        | _ => stuck "Convert: string to a slice of what?"
      | .slice _, .slice e, .slice (some a) _ _ => do
        match s == d, ← underlying e with
        | true, .int .u8 => do markStringish a; pure (conc φ x)
        | _, _ => unsupported (.noEntry "convert/other")
      | .slice e, .string, x => do
        match ← underlying e with
        | .int .u8 => Conv.bytesToString x
        | .int .i32 => Conv.runesToString x
        | _ => stuck "Convert: a slice of what to string?"
      | .unsafePointer, _, x | _, .unsafePointer, x => Conv.unsafePointer s d x
      | .int _, _, .pointer (some _) => unsupported .addressObserved
      | _, _, _ => unsupported (.noEntry "convert/other")) w r w' → Runs P (convert s d (conc φ x)) w r w' := by
    intro dd r w' hd hr
    exact runs_bind (runs_underlying hsd w) (runs_bind (runs_underlying hd w) hr)
  cases hk : i.k with
  | int k =>
    rw [hk] at e1
    obtain ⟨kd, n, rfl, e2⟩ := asI_ok (v := x) e1
    obtain ⟨rfl, rfl⟩ := okI_ok e2
    refine .inl ⟨rfl, start _ (kInt hti hk) ?_, by simp [fineV]⟩
    simp only [conc]
    cases sd <;> exact runs_pure _ w
  | str =>
    rw [hk] at e1
    have hd := kStr hti hk
    have bytes : ∀ {r : Value} (cx : Value), (∀ c n, cx ≠ .int c n) → (∀ s, cx ≠ .string s) → conc φ x = cx → (∃ el ie, P.underlying s = some (.slice el) ∧ TyOk P el ie ∧ ie.k = .int .u8) → Runs P (Conv.bytesToString cx) w r w → Runs P (convert s d (conc φ x)) w r w := by
      rintro r cx h1 h2 rfl ⟨el, ie, q1, q2, q3⟩ hr
      refine start _ hd ?_
      rw [hsd] at q1
      cases q1
      have hu := kInt q2 q3
      cases hcx : conc φ x <;> first
        | exact absurd hcx (h1 _ _)
        | exact absurd hcx (h2 _)
        | (rw [hcx] at hr; exact runs_bind (runs_underlying hu w) hr)
    cases x with
    | str u =>
      obtain ⟨rfl, rfl⟩ := okV_ok e1
      refine .inl ⟨rfl, start _ hd ?_, by simp [fineV]⟩
      simp only [conc]
      cases sd <;> exact runs_pure _ w
    | nils =>
      obtain ⟨el, ie, hu, _, hie, e2⟩ := sliceElem_ok hT (k := fun _ ie => (match ie.k with | .int .u8 => okV (.str ⟨0, 0⟩) h | _ => .no 78)) e1
      cases hke : ie.k with
      | int q =>
        rw [hke] at e2
        cases q <;> first
          | cases e2; done
          | (obtain ⟨rfl, rfl⟩ := okV_ok e2
             refine .inl ⟨rfl, bytes (.slice none 0 0) (by simp) (by simp) (by simp [conc]) ⟨_, _, hu, hie, hke⟩ ?_, by simp [fineV]⟩
             exact runs_pure _ w)
      | _ => rw [hke] at e2; cases e2
    | sl b o n c =>
      obtain ⟨el, ie, hu, _, hie, e2⟩ := sliceElem_ok hT (k := fun _ ie => (match ie.k with | .int .u8 => cellsAt h b o n fun cs => bytesK cs fun m => okV (.str ⟨m, n⟩) h | _ => .no 78)) e1
      cases hke : ie.k with
      | int q =>
        rw [hke] at e2
        cases q <;> first
          | cases e2; done
          | (obtain ⟨cs, c1, e3, c2, c3⟩ := cellsAt_ok m hH e2
             obtain ⟨ns, rfl, e4⟩ := bytesK_ok cs e3
             obtain ⟨rfl, rfl⟩ := okV_ok e4
             refine .inl ⟨rfl, bytes (.slice (some ⟨φ.blk b, φ.off b + o, none⟩) n c) (by simp) (by simp) (by simp [conc]) ⟨_, _, hu, hie, hke⟩ ?_, by simp [fineV]⟩
             exact runs_bytes (by simpa using c1) c3)
      | _ => rw [hke] at e2; cases e2
    | gs b eo z n =>
      obtain ⟨el, ie, hu, _, hie, e2⟩ := sliceElem_ok hT (k := fun _ ie => (match ie.k with | .int .u8 => chk (Nat.beq z 1) 78 (cellsAt h b eo n fun cs => bytesK cs fun m => okV (.str ⟨m, n⟩) h) | _ => .no 78)) e1
      cases hke : ie.k with
      | int q =>
        rw [hke] at e2
        cases q <;> first
          | cases e2; done
          | (obtain ⟨hz, e2⟩ := chk_ok e2
             have hz := beq_eq hz
             subst hz
             obtain ⟨cs, c1, e3, c2, c3⟩ := cellsAt_ok m hH e2
             obtain ⟨ns, rfl, e4⟩ := bytesK_ok cs e3
             obtain ⟨rfl, rfl⟩ := okV_ok e4
             refine .inl ⟨rfl, bytes (.slice (some ⟨φ.blk b, φ.off b + eo, none⟩) n (φ.K b - eo)) (by simp) (by simp) (by simp [conc]) ⟨_, _, hu, hie, hke⟩ ?_, by simp [fineV]⟩
             exact runs_bytes (by simpa using c1) c3)
      | _ => rw [hke] at e2; cases e2
    | _ => cases e1
  | slice el =>
    rw [hk] at e1
    obtain ⟨u, rfl, e2⟩ := asS_ok (v := x) e1
    obtain ⟨ie, hie, e3⟩ := ty_ok e2
    have hte := hT _ _ hie
    cases hke : ie.k with
    | int q =>
      rw [hke] at e3
      cases q <;> first
        | cases e3; done
        | (obtain ⟨hsz, e4⟩ := chk_ok e3
           have hsz := beq_eq hsz
           rw [cellsFrom_eq] at e4
           refine .inr ⟨el, ie, u, rfl, kSlice hti hk, hte, hke, hsz, e4, fun hgo => start _ (kSlice hti hk) ?_⟩
           have hu8 := kInt hte hke
           simp only [conc]
           cases sd <;> exact runs_bind (runs_underlying hu8 w) hgo)
    | _ => rw [hke] at e3; cases e3
  | raw =>
    rw [hk] at e1
    cases hks : is.k with
    | ptr t =>
      rw [hks] at e1
      obtain ⟨_, e2⟩ := chk_ok e1
      obtain ⟨ie, hie, e3⟩ := ty_ok e2
      have hte := hT _ _ hie
      obtain ⟨b, o, rfl, e4⟩ := asP_ok (v := x) e3
      obtain ⟨cs, e', g, fl, fh, hb, e5⟩ := row_ok e4
      obtain ⟨hc, e6⟩ := chk_ok e5
      obtain ⟨rfl, rfl⟩ := okV_ok e6
      obtain ⟨ccs, f, rfl, h0, r1, r2, r3⟩ := whole_ok m hb hc
      have hps := kPtr hts hks
      rw [hsd] at hps
      cases hps
      refine .inl ⟨rfl, start _ (kRaw hti hk) ?_, hf⟩
      simp only [conc]
      refine runs_bind (runs_underlying hsd w) ?_
      refine runs_bind (runs_underlying (kRaw hti hk) w) ?_
      dsimp only
      refine runs_bind (runs_seenAt r1) ?_
      refine runs_bind (runs_bind (runs_shape r1) (runs_pure _ w)) ?_
      dsimp only
      refine runs_bind (sizeOfT hte w) ?_
      rw [if_neg (by
        simp only [h0, r2, Nat.add_zero, ge_iff_le, Option.isNone_none, Bool.and_true, Bool.or_eq_true, decide_eq_true_eq]
        omega)]
      exact runs_pure _ w
    | _ => rw [hks] at e1; cases e1
  | ptr t =>
    rw [hk] at e1
    cases hks : is.k with
    | raw =>
      rw [hks] at e1
      obtain ⟨hvw, e2⟩ := chk_ok e1
      obtain ⟨ie, hie, e3⟩ := ty_ok e2
      have hte := hT _ _ hie
      obtain ⟨b, o, rfl, e4⟩ := asP_ok (v := x) e3
      obtain ⟨cs, e', g, fl, fh, hb, e5⟩ := row_ok e4
      obtain ⟨hc, e6⟩ := chk_ok e5
      obtain ⟨rfl, rfl⟩ := okV_ok e6
      obtain ⟨ccs, f, rfl, h0, r1, r2, r3⟩ := whole_ok m hb hc
      have hps := kRaw hts hks
      rw [hsd] at hps
      cases hps
      obtain ⟨inf, z, i1, i2, _⟩ := hte.info
      refine .inl ⟨rfl, start _ (kPtr hti hk) ?_, hf⟩
      simp only [conc]
      refine runs_bind (runs_underlying hsd w) ?_
      refine runs_bind (runs_underlying (kPtr hti hk) w) ?_
      dsimp only
      refine runs_bind (runs_seenAt r1) ?_
      refine runs_bind (sizeOfT hte w) ?_
      refine runs_bind (a := true) (w1 := w) ?_ ?_
      · refine runs_bind (runs_program w) ?_
        refine runs_bind (runs_shape r1) ?_
        refine runs_eq ?_ w
        have : P.cellsOf t = ie.size := by simp [Program.cellsOf, i1, i2]
        rw [this, r2, Nat.div_self (by omega), h0]
        exact hV t hvw
      · rw [if_pos (by simp)]
        exact runs_pure _ w
    | _ => rw [hks] at e1; cases e1
  | _ => rw [hk] at e1; cases e1

theorem opConv_pu (hT : TysOk P E) (hV : ∀ e, E.view e = true → liesAt P P.depth e 1 0 e 1 = true) {h h' : H} (m : Mem P φ h w) (hH : fineH φ D h) {s d : TypeId} {x v : V} (hf : fineV φ D x) (hn : h'.next = h.next) (e : opConv E s d x h = .ok (v, h')) :
    Pu P φ D (convert s d (conc φ x)) w h v h' := by
  rcases opConv_split hT hV m hH hf e with p | ⟨el, ie, u, _, _, _, _, _, e1, _⟩
  · exact p
  · obtain ⟨_, e2⟩ := H.new_ok e1
    obtain ⟨_, rfl⟩ := okV_ok e2
    have : h.next + 1 = h.next := hn
    omega
theorem opConv_ef (hT : TysOk P E) (hV : ∀ e, E.view e = true → liesAt P P.depth e 1 0 e 1 = true) {h h' : H} (I : Inv P φ h w) {s d : TypeId} {x v : V} (hf : fineV φ (· < h.next) x) (e : opConv E s d x h = .ok (v, h')) :
    Ef P φ h w (do pure (.value (← convert s d (conc φ x)))) v h' := by
  rcases opConv_split (w := w) hT hV I.mem I.fine hf e with p | ⟨el, ie, u, rfl, hu, hte, hke, hsz, e4, hgo⟩
  · exact p.ef I
  · obtain ⟨hn, e5⟩ := H.new_ok e4
    obtain ⟨rfl, rfl⟩ := okV_ok e5
    have hn : h.next < 262144 := hn
    obtain ⟨inf, z, i1, i2, _⟩ := hte.info
    have hcap : u.len ≤ capOf w u.len 0 el := cap_ge w u.len 0 el
    obtain ⟨ce, hce⟩ := cells_of_str' u
    obtain ⟨X, J⟩ := I.dr.new (w := dr w) (K := capOf w u.len 0 el) (o := .cells ((List.range u.len).map fun j => V.int .u8 (.ofNat (u.at (0 + j)))) el true u.len 9223372036854775808)
      (c := .cells (ce ++ Array.replicate (capOf w u.len 0 el - u.len) (.int .u8 0)) el (capOf w u.len 0 el, capOf w u.len 0 el + 1)) hn (by
        simp only [fineO]; rw [fineL_iff]; intro v hv; obtain ⟨j, _, rfl⟩ := List.mem_map.1 hv; simp [fineV]) (by
        refine ORel_grown (by simp [Phi.up]) i1 (fun j v hv => ?_) ⟨by omega, fun _ => ⟨hcap, .inr rfl⟩⟩ ?_ ?_
        · exact hce.2.1 _ j v hv _
        · rw [i2, hsz]; simp [Phi.up]; exact hcap
        · rw [i2, hsz, hce.2.2 _ hcap]; simp [Phi.up])
    refine Ef.val (φ' := φ.up h.next w.heap.size 0 (capOf w u.len 0 el)) (hgo ?_) ((Ext.dr I).trans I.mem.llt X) J (by simp only [fineV, Phi.up, if_true]; exact ⟨by show h.next < h.next + 1; omega, by omega⟩)
    have hfin : conc (φ.up h.next w.heap.size 0 (capOf w u.len 0 el)) (.gs h.next 0 1 u.len) = .slice (some ⟨w.heap.size, 0, none⟩) u.len (capOf w u.len 0 el) := by
      simp [conc, Phi.up]
    rw [hfin]
    unfold Conv.stringToBytes
    rw [Str.val_size]
    refine runs_bind (runs_cap _ _ _ w) ?_
    rw [hce.1]
    refine runs_bind (runs_newRow el _ _) ?_
    refine runs_bind (runs_mark (n := capOf w u.len 0 el) (hce.2.2 _ hcap)) ?_
    exact runs_pure _ _
end Go.Vint
namespace Go.Vint
variable {P : Program} {E : Env} {φ : Phi} {D : Nat → Prop} {w : World}

theorem frozen_upd {b o n lo hi : Nat} {ccs : Array Value} {el : TypeId} (h : w.heap[b]? = some (.cells ccs el (lo, hi))) (hn : n ≠ 0) :
    w.freeze ⟨b, o, none⟩ n = upd w b (.cells ccs el (if lo = hi then (o, o + n) else (min lo o, max hi (o + n)))) := by
  unfold World.freeze upd
  rw [if_neg hn]
  congr 1
  apply Array.ext_getElem?
  intro i
  rw [Array.getElem?_modify, Array.getElem?_setIfInBounds]
  by_cases hi' : b = i
  · subst hi'
    have hlt := lt_of_get h
    rw [if_pos rfl, if_pos rfl, if_pos hlt, h]
    simp only [Option.map_some]
    by_cases hl : lo = hi
    · subst hl; simp
    · simp [hl]
  · rw [if_neg hi', if_neg hi']

theorem runs_loadBytes {b : Nat} (ns : List Nat) : ∀ (o : Nat) (acc : ByteArray), (∀ (i : Nat) (v : Nat), ns[i]? = some v → w.cell? ⟨b, o + i, none⟩ = some (.int .u8 (.ofNat v))) →
    Runs P (loadBytes ⟨b, o, none⟩ acc ns.length) w ⟨acc.data ++ (ns.map UInt8.ofNat).toArray⟩ w := by
  induction ns with
  | nil => intro o acc _; refine runs_eq ?_ w; simp
  | cons n ns ih =>
    intro o acc h
    refine runs_bind (runs_load (h 0 n rfl)) ?_
    dsimp only
    rw [add_plain]
    have := ih (o + 1) (acc.push (Int.ofNat n).toNat.toUInt8) (fun i v hv => by rw [Nat.add_assoc, Nat.add_comm 1 i]; exact h (i + 1) v hv)
    refine this.trans ?_
    congr 2
    apply Array.toList_inj.1
    simp [ByteArray.push, Nat.toUInt8]

theorem rowAt_own {e : TypeId} {count o n : Nat} {inf : TypeInfo} (hi : P.info? e = some inf) (hs : inf.size = 1) (hn : o + n ≤ count) : liesAt P P.depth e count o e n = true := by
  have hc : P.cellsOf e = 1 := by simp [Program.cellsOf, hi, hs]
  obtain ⟨d, hd⟩ : ∃ d, P.depth = d + 1 := ⟨_, rfl⟩
  have hsame : sameLayout P P.depth e e = true := by
    rw [hd]; simp [sameLayout]
  have hrow : rowAt P (sameLayout P P.depth · e) P.depth e count o n = true := by
    rw [hd]
    unfold rowAt
    rw [← hd]
    simp [hc, Nat.mod_one, hn, hsame]
  rw [hd]
  unfold liesAt
  rw [hrow]
  rfl

theorem opUnsafeString_ef (hT : TysOk P E) {h h' : H} (I : Inv P φ h w) {t ty0 : TypeId} {ts : Array TypeId} {p n v : V} (hts : ts[0]? = some t) (e : opUnsafeString E t p n h = .ok (v, h')) :
    Ef P φ h w (do pure (.value (← Builtin.unsafeString_ ts ty0 #[conc φ p, conc φ n]))) v h' := by
  obtain ⟨i, hi, e1⟩ := ty_ok e
  have hti := hT _ _ hi
  cases hk : i.k with
  | ptr el =>
    rw [hk] at e1
    obtain ⟨kn, m, rfl, e2⟩ := asN_ok (v := n) e1
    have hu := kPtr hti hk
    cases hb0 : Nat.beq m 0 with
    | true =>
      rw [hb0] at e2
      have hm := beq_eq hb0
      subst hm
      cases p with
      | nilp =>
        obtain ⟨rfl, rfl⟩ := okV_ok e2
        refine Ef.val (φ' := φ) ?_ (Ext.refl _ _ _ I.mem.llt) I (by simp [fineV])
        simp only [conc]
        unfold Builtin.unsafeString_
        refine runs_bind (runs_asInt _ _ w) ?_
        rw [hts]
        exact runs_pure _ w
      | ptr b o =>
        obtain ⟨rfl, rfl⟩ := okV_ok e2
        refine Ef.val (φ' := φ) ?_ (Ext.refl _ _ _ I.mem.llt) I (by simp [fineV])
        simp only [conc]
        unfold Builtin.unsafeString_
        refine runs_bind (runs_asInt _ _ w) ?_
        rw [hts]
        exact runs_pure _ w
      | _ => cases e2
    | false =>
      rw [hb0] at e2
      have hm0 : m ≠ 0 := by intro h; subst h; cases hb0
      obtain ⟨ie, hie, e3⟩ := ty_ok e2
      have hte := hT _ _ hie
      obtain ⟨hc, e4⟩ := chk_ok e3
      obtain ⟨hsz, hle⟩ := and_ok hc
      have hsz := beq_eq hsz
      have hle := ble_le hle
      obtain ⟨b, o, rfl, e5⟩ := asP_ok e4
      obtain ⟨cs, e', g, fl, fh, hb, e6⟩ := row_ok e5
      obtain ⟨hc, e7⟩ := chk_ok e6
      obtain ⟨q1, hc⟩ := and_ok hc
      obtain ⟨q2, q3⟩ := and_ok hc
      have q1 := beq_eq q1
      have q2 : o + m ≤ 9223372036854775807 := ble_le q2
      subst q1
      obtain ⟨hl, e8⟩ := cutAt_ok e7
      obtain ⟨ns, hns, e9⟩ := bytesK_ok _ e8
      rw [H.set_eq] at e9
      obtain ⟨rfl, rfl⟩ := okV_ok e9
      have hnl : ns.length = m := by rw [hns] at hl; simpa using hl
      obtain ⟨inf, z, i1, i2, _⟩ := hte.info
      have hrel := I.mem.rel b _ hb
      obtain ⟨ccs, lo, hi', r1, r2, r3, r4, r5⟩ := hrel
      have hwr : Wr h b := ⟨_, hb, by
        simp only [O.wr, Bool.or_eq_true, decide_eq_true_eq]
        rcases or_ok q3 with h | h
        · exact .inl h
        · right; have := ble_le h; show fh < 9223372036854775808; omega⟩
      have hoff : φ.off b = 0 := by
        cases g with
        | true => exact (r4 rfl).1
        | false =>
          rcases or_ok q3 with h | h
          · cases h
          · exact (r5 rfl (by have := ble_le h; show fh < 9223372036854775808; omega)).1
      have hcut : o + m ≤ cs.length := by
        have : ((cs.drop o).take m).length = m := hl
        simp at this; omega
      have hsize : cs.length ≤ ccs.size := by
        obtain ⟨ccs', lo', hi'', p1, p2⟩ := ORel.upto (I.mem.rel b _ hb)
        rw [r1] at p1
        cases p1
        have := p2 (by intro h; subst h; simp at hcut; omega)
        omega
      have hcell : ∀ (j v : Nat), ns[j]? = some v → w.cell? ⟨φ.blk b, φ.off b + o + j, none⟩ = some (.int .u8 (.ofNat v)) := by
        intro j v hv
        have hj : j < m := by
          rcases Nat.lt_or_ge j m with h | h
          · exact h
          · rw [List.getElem?_eq_none (by omega)] at hv; cases hv
        have : cs[o + j]? = some (.int .u8 (.ofNat v)) := by
          have h1 := congrArg (fun l => l[j]?) hns
          simp only [List.getElem?_take, List.getElem?_drop, List.getElem?_map, hv, if_pos hj] at h1
          exact h1
        have := I.mem.cell hb this
        rw [Nat.add_assoc]
        simpa [conc] using this
      have hload := runs_loadBytes (P := P) (w := w) (b := φ.blk b) ns (φ.off b + o) .empty hcell
      obtain ⟨X, J⟩ := I.put (b := b) (o := .cells cs el g (Bool.casesOn (Nat.beq fl fh) (Nat.min fl o) o) (Nat.max fh (Nat.add o m))) (c := .cells ccs el (if lo = hi' then (φ.off b + o, φ.off b + o + m) else (min lo (φ.off b + o), max hi' (φ.off b + o + m)))) hwr (show fineL φ _ cs from fineH_get I.fine hb) (by
        have hfl : (Bool.casesOn (Nat.beq fl fh) (Nat.min fl o) o : Nat) = if fl = fh then o else min fl o := by
          rw [beq_dec]
          by_cases h : fl = fh
          · rw [decide_eq_true h, if_pos h]
          · rw [decide_eq_false h, if_neg h]
        rw [hfl, hoff]
        refine ⟨ccs, (if lo = hi' then (0 + o, 0 + o + m) else (min lo (0 + o), max hi' (0 + o + m))).1, (if lo = hi' then (0 + o, 0 + o + m) else (min lo (0 + o), max hi' (0 + o + m))).2, rfl, ?_, ?_, ?_, ?_⟩
        · exact fun i v hv => r2 i v hv
        · have hmx : Nat.max fh (Nat.add o m) = max fh (o + m) := rfl
          rw [hmx]
          have f : far = 9223372036854775808 := rfl
          obtain ⟨s1, s2⟩ := r3
          by_cases hl : lo = hi'
          · simp only [if_pos hl]
            refine ⟨by omega, fun _ => ⟨?_, .inl (by omega)⟩⟩
            split <;> omega
          · simp only [if_neg hl]
            obtain ⟨s3, s4⟩ := s2 (by omega)
            refine ⟨by omega, fun _ => ⟨?_, ?_⟩⟩
            · split
              · rename_i h
                rcases s4 with s4 | s4 <;> omega
              · omega
            · rcases s4 with s4 | s4
              · left; omega
              · right; omega
        · exact fun hg => r4 hg
        · exact fun hg hfar => r5 hg (by
            have hmx : Nat.max fh (Nat.add o m) = max fh (o + m) := rfl
            rw [hmx] at hfar; omega))
      refine Ef.val (φ' := φ) ?_ X J (by simp [fineV])
      simp only [conc]
      unfold Builtin.unsafeString_
      refine runs_bind (runs_asInt _ _ w) ?_
      rw [hts]
      dsimp only
      rw [if_neg (by simp), if_neg (by
        have : IntKind.i64.max = 9223372036854775807 := rfl
        rw [this]; simp only [Int.ofNat_eq_natCast]; omega)]
      rw [if_neg (by simp only [Int.ofNat_eq_natCast]; omega)]
      refine runs_bind (a := el) (w1 := w) (runs_bind (runs_underlying hu w) (runs_pure _ w)) ?_
      refine runs_bind (a := true) (w1 := w) ?_ ?_
      · refine runs_bind (runs_program w) ?_
        refine runs_bind (runs_shape r1) ?_
        refine runs_eq ?_ w
        have hc1 : P.cellsOf el = 1 := by simp [Program.cellsOf, i1, i2, hsz]
        rw [hc1, Nat.div_one]
        refine rowAt_own i1 (i2.trans hsz) ?_
        rw [hoff]
        show 0 + o + m ≤ ccs.size
        omega
      · rw [if_pos rfl, show (Int.ofNat m).toNat = m from rfl]
        rw [hnl] at hload
        refine runs_bind hload ?_
        refine runs_bind (a := ()) (w1 := w.freeze ⟨φ.blk b, φ.off b + o, none⟩ m) rfl ?_
        rw [frozen_upd r1 hm0]
        refine runs_eq ?_ _
        rw [bytes_val ns hnl]
        simp [ByteArray.empty, ByteArray.emptyWithCapacity]
        rfl
  | _ => rw [hk] at e1; cases e1

theorem opSliceData_ef {h h' : H} (I : Inv P φ h w) {ty0 : TypeId} {ts : Array TypeId} {x v : V} (hf : fineV φ (· < h.next) x) (e : opSliceData x h = .ok (v, h')) :
    Ef P φ h w (do pure (.value (← Builtin.unsafeSliceData_ ts ty0 #[conc φ x]))) v h' := by
  cases x with
  | nils =>
    obtain ⟨rfl, rfl⟩ := okV_ok e
    exact Ef.val (φ' := φ) (by simp only [conc]; exact runs_pure _ w) (Ext.refl _ _ _ I.mem.llt) I (by simp [fineV])
  | gs b eo z n =>
    obtain ⟨hn, e1⟩ := chk_ok e
    obtain ⟨rfl, rfl⟩ := okV_ok e1
    have hn : 1 ≤ n := ble_le hn
    simp only [fineV] at hf
    refine Ef.val (φ' := φ) ?_ (Ext.refl _ _ _ I.mem.llt) I (by simpa [fineV] using hf.1)
    simp only [conc]
    unfold Builtin.unsafeSliceData_
    refine (show Runs P (if φ.K b - eo ≠ 0 then pure (Value.pointer (some ⟨φ.blk b, φ.off b + eo * z, none⟩)) else _) w _ w from ?_)
    rw [if_pos (by omega)]
    exact runs_pure _ w
  | sl b o n c =>
    obtain ⟨hn, e1⟩ := chk_ok e
    obtain ⟨rfl, rfl⟩ := okV_ok e1
    have hn : 1 ≤ c := ble_le hn
    refine Ef.val (φ' := φ) ?_ (Ext.refl _ _ _ I.mem.llt) I (by simpa [fineV] using hf)
    simp only [conc]
    unfold Builtin.unsafeSliceData_
    refine (show Runs P (if c ≠ 0 then pure (Value.pointer (some ⟨φ.blk b, φ.off b + o, none⟩)) else _) w _ w from ?_)
    rw [if_pos (by omega)]
    exact runs_pure _ w
  | _ => cases e
end Go.Vint
namespace Go.Vint
variable {P : Program} {E : Env} {φ : Phi} {D : Nat → Prop} {w : World} {h h' : H} {t : Tm} {ct : Array Value} {v : V}

/-- an operation that just gives a value -/
structure PuN (P : Program) (φ : Phi) (D : Nat → Prop) (s : Sem Next) (w : World) (h : H) (v : V) (h' : H) : Prop where
  same : h' = h
  runs : Runs P s w (.value (conc φ v)) w
  fine : fineV φ D v
theorem Pu.n {s : Sem Value} (p : Pu P φ D s w h v h') : PuN P φ D (do pure (.value (← s))) w h v h' := ⟨p.1, runs_bind p.2 (runs_pure _ _), p.3⟩
theorem PuN.ef {s : Sem Next} (I : Inv P φ h w) (p : PuN P φ (· < h.next) s w h v h') : Ef P φ h w s v h' := by
  obtain ⟨rfl, h2, h3⟩ := p
  exact ⟨φ, w, _, h2, rfl, Ext.refl _ _ _ I.mem.llt, I, h3⟩
theorem two_ok {β : Type} {l : List V} {k : V → V → R β} {r : β} (e : two l k = .ok r) : ∃ a b, l = [a, b] ∧ k a b = .ok r := by
  match l, e with
  | [], e => cases e
  | [_], e => cases e
  | [a, b], e => exact ⟨a, b, rfl, e⟩
  | _ :: _ :: _ :: _, e => cases e
theorem cons_ok {α β : Type} {l : List α} {w : Nat} {k : α → List α → R β} {r : β} (e : (List.casesOn l (.no w) k : R β) = .ok r) : ∃ a l', l = a :: l' ∧ k a l' = .ok r := by
  cases l with
  | nil => cases e
  | cons a l' => exact ⟨a, l', rfl, e⟩
def Views (P : Program) (E : Env) : Prop := ∀ e, E.view e = true → liesAt P P.depth e 1 0 e 1 = true

theorem arr_map {as : Array Operand} {vs : List V} (h : as.toList.map (rho ct) = concL φ vs) : as.map (rho ct) = (concL φ vs).toArray := by
  apply Array.toList_inj.1; simpa using h

/-- operations that never make a block -/
def plainOp : Op → Bool
  | .convert .. | .slice .. => false
  | _ => true
/-- operations that neither write nor make -/
theorem op1_pu (hT : TysOk P E) (hV : Views P E) (m : Mem P φ h w) (hH : fineH φ D h) (ht : TRel φ t ct) (hf : fineT φ D t) (o : Oper) (hk : kindOp o.op ≤ 1) (hn : plainOp o.op = true ∨ h'.next = h.next) (e : op1 E t h o.op = .ok (v, h')) :
    PuN P φ D (execOp (rho ct) o) w h v h' := by
  unfold execOp
  cases ho : o.op <;> rw [ho] at e hk hn <;> first | (exfalso; revert hk; show ¬ (3 ≤ 1); decide) | (exfalso; revert hk; show ¬ (2 ≤ 1); decide) | dsimp only
  case move x =>
    obtain ⟨u, h1, h2, e1⟩ := ev_ok e ht hf
    obtain ⟨rfl, rfl⟩ := okV_ok e1
    exact ⟨rfl, by rw [h1]; exact runs_pure _ _, h2⟩
  case assign x =>
    obtain ⟨u, h1, h2, e1⟩ := ev_ok e ht hf
    obtain ⟨rfl, rfl⟩ := okV_ok e1
    exact ⟨rfl, by rw [h1]; exact runs_pure _ _, h2⟩
  case pick c a b =>
    obtain ⟨u, h1, h2, e1⟩ := ev_ok e ht hf
    obtain ⟨q, rfl, e2⟩ := asB_ok (v := u) e1
    obtain ⟨x, h3, h4, e3⟩ := ev_ok e2 ht hf
    obtain ⟨rfl, rfl⟩ := okV_ok e3
    refine ⟨rfl, ?_, h4⟩
    rw [h1]
    simp only [conc]
    cases q with
    | true => rw [← h3]; exact runs_pure _ _
    | false => rw [← h3]; exact runs_pure _ _
  case build tt ps =>
    obtain ⟨us, h1, h2, e1⟩ := evp_ok ht hf _ e
    refine (opBuild_pu (φ := φ) (D := D) hT ?_ h2 e1).n
    simpa using h1
  case load tt a =>
    obtain ⟨u, h1, h2, e1⟩ := ev_ok e ht hf
    obtain ⟨x, e2, h3, h4, _⟩ := loadK_ok hT m hH e1
    obtain ⟨rfl, rfl⟩ := okV_ok e2
    refine ⟨rfl, ?_, h3⟩
    rw [h1]
    exact runs_bind h4 (runs_pure _ _)
  case nilCheck x =>
    obtain ⟨u, h1, h2, e1⟩ := ev_ok e ht hf
    obtain ⟨rfl, rfl, n1, n2, n3⟩ := opNil_pu (φ := φ) h2 e1
    refine ⟨rfl, ?_, h2⟩
    rw [h1]
    have hc : (∀ f a c, conc φ v ≠ .func (.method f) a c) := by
      intro f a c
      cases v <;> simp [conc]
    cases hcv : conc φ v with
    | pointer a => cases a with
      | none => exact absurd hcv n1
      | some a => exact runs_pure _ _
    | nilIface => exact absurd hcv n2
    | nilFunc => exact absurd hcv n3
    | func f a c => cases f with
      | method s => exact absurd hcv (hc _ _ _)
      | _ => exact runs_pure _ _
    | _ => exact runs_pure _ _
  case binOp op tt x y yt =>
    obtain ⟨a, h1, h2, e1⟩ := ev_ok e ht hf
    obtain ⟨b, h3, h4, e2⟩ := ev_ok e1 ht hf
    obtain ⟨p, g⟩ := bin_pu (P := P) (φ := φ) (D := D) (w := w) (a := x) (b := y) hT e2
    refine Pu.n ⟨p.1, ?_, p.3⟩
    rw [h1, h3]
    exact runs_bind g p.2
  case unOp op tt x =>
    obtain ⟨a, h1, h2, e1⟩ := ev_ok e ht hf
    have := (un_pu (P := P) (φ := φ) (D := D) (w := w) e1).n
    rw [h1]; exact this
  case convert s d x =>
    obtain ⟨a, h1, h2, e1⟩ := ev_ok e ht hf
    have := (opConv_pu (w := w) hT hV m hH h2 (hn.resolve_left (by intro h; cases h)) e1).n
    rw [h1]; exact this
  case makeFunc f a c =>
    cases f with
    | func f =>
      obtain ⟨us, h1, h2, e1⟩ := evs_ok ht hf _ e
      obtain ⟨zs, h3, h4, e2⟩ := evs_ok ht hf _ e1
      obtain ⟨rfl, rfl⟩ := okV_ok e2
      refine ⟨rfl, ?_, by simp only [fineV]; exact ⟨h2, h4⟩⟩
      rw [arr_map h1, arr_map h3]
      simp only [conc]
      exact runs_pure _ _
    | _ => cases e
  case slice tt x lo hi mx =>
    obtain ⟨a, h1, h2, e1⟩ := ev_ok e ht hf
    obtain ⟨l, h3, h4, e2⟩ := evo_ok e1 ht hf
    obtain ⟨q, h5, h6, e3⟩ := evo_ok e2 ht hf
    obtain ⟨z, h7, h8, e4⟩ := evo_ok e3 ht hf
    obtain ⟨hc, e5⟩ := chk_ok e4
    have hx : okMx q z := by
      intro hz
      cases z with
      | none => exact absurd rfl hz
      | some z => cases q with
        | none => cases hc
        | some q => simp
    have := (opSlice_pu (P := P) (φ := φ) (w := w) hT h2 (hn.resolve_left (by intro h; cases h)) hx e5).n
    rw [h1, h3, h5, h7]
    exact this
  case fieldAddr s x f =>
    obtain ⟨a, h1, h2, e1⟩ := ev_ok e ht hf
    have := (opFieldAddr_pu (P := P) (φ := φ) (D := D) (w := w) hT h2 e1).n
    rw [h1]; exact this
  case field s x f =>
    obtain ⟨a, h1, h2, e1⟩ := ev_ok e ht hf
    have := (opField_pu (P := P) (φ := φ) (D := D) (w := w) hT h2 e1).n
    rw [h1]; exact this
  case indexAddr tt x i =>
    obtain ⟨a, h1, h2, e1⟩ := ev_ok e ht hf
    obtain ⟨b, h3, h4, e2⟩ := ev_ok e1 ht hf
    obtain ⟨d, n, rfl, e3⟩ := asN_ok (v := b) e2
    have := (opIndexAddr_pu (P := P) (φ := φ) (D := D) (w := w) (d := d) hT h2 e3).n
    rw [h1, h3]
    simp only [conc]; exact this
  case index tt x i =>
    obtain ⟨a, h1, h2, e1⟩ := ev_ok e ht hf
    obtain ⟨b, h3, h4, e2⟩ := ev_ok e1 ht hf
    obtain ⟨d, n, rfl, e3⟩ := asN_ok (v := b) e2
    have := (opIndex_pu (P := P) (φ := φ) (D := D) (w := w) (d := d) hT h2 e3).n
    rw [h1, h3]
    simp only [conc]; exact this
  case lookup tt x k ok =>
    obtain ⟨a, h1, h2, e1⟩ := ev_ok e ht hf
    obtain ⟨b, h3, h4, e2⟩ := ev_ok e1 ht hf
    have := (opLookup_pu (P := P) (φ := φ) (D := D) (w := w) hT m hH e2).n
    rw [h1, h3]; exact this
  case extract x i =>
    obtain ⟨a, h1, h2, e1⟩ := ev_ok e ht hf
    have := (opExtract_pu (P := P) (φ := φ) (D := D) (w := w) h2 e1).n
    rw [h1]; exact this
  case call c =>
    obtain ⟨f, as, ts⟩ := c
    cases f with
    | value f => cases e
    | invoke a b => cases e
    | builtin b =>
      obtain ⟨us, h1, h2, e1⟩ := evs_ok ht hf _ e
      obtain ⟨tt, ts', hts, e2⟩ := cons_ok e1
      have ht0 : ts[0]? = some tt := by
        rw [← Array.getElem?_toList, hts]; rfl
      have hargs := arr_map h1
      have start : ∀ {n : Next}, Runs P (builtin b ts o.type (as.map fun | .const _ => true | _ => false) (as.map (rho ct))) w n w → Runs P (do let d ← resolve (rho ct) ⟨.builtin b, as, ts⟩ o.type; invoke d.target d.args) w n w := fun hr => runs_bind (runs_pure _ w) hr
      cases b <;> first | (exfalso; revert hk; show ¬ (3 ≤ 1); decide) | skip
      case len =>
        obtain ⟨x, us', rfl, e3⟩ := cons_ok e2
        obtain ⟨p1, p2, p3⟩ := (opLen_pu (P := P) (φ := φ) (D := D) (w := w) (vs := as.map (rho ct)) (ty0 := o.type) hT m ht0 (by rw [hargs]; simp [concL]) e3).n
        exact ⟨p1, start p2, p3⟩
      case cap =>
        obtain ⟨x, us', rfl, e3⟩ := cons_ok e2
        obtain ⟨p1, p2, p3⟩ := (opCap_pu (P := P) (φ := φ) (D := D) (w := w) (vs := as.map (rho ct)) (ty0 := o.type) hT ht0 (by rw [hargs]; simp [concL]) e3).n
        exact ⟨p1, start p2, p3⟩
      case min =>
        obtain ⟨p1, p2, p3⟩ := (opMin_pu (P := P) (φ := φ) (D := D) (w := w) (ts := ts) (t := o.type) e2).n
        exact ⟨p1, start (by rw [hargs]; exact p2), p3⟩
      case max =>
        obtain ⟨p1, p2, p3⟩ := (opMax_pu (P := P) (φ := φ) (D := D) (w := w) (ts := ts) (t := o.type) e2).n
        exact ⟨p1, start (by rw [hargs]; exact p2), p3⟩

/-- every single operation -/
theorem op1_ef (hT : TysOk P E) (hV : Views P E) (I : Inv P φ h w) (ht : TRel φ t ct) (hf : fineT φ (· < h.next) t) (o : Oper) (e : op1 E t h o.op = .ok (v, h')) :
    Ef P φ h w (execOp (rho ct) o) v h' := by
  by_cases hk : kindOp o.op ≤ 1 ∧ plainOp o.op = true
  · exact (op1_pu hT hV I.mem I.fine ht hf o hk.1 (.inl hk.2) e).ef I
  unfold execOp
  cases ho : o.op <;> rw [ho] at e hk <;> first | (exfalso; exact hk ⟨by decide, rfl⟩) | (exfalso; exact hk ⟨by show (0 : Nat) ≤ 1; decide, rfl⟩) | (exfalso; exact hk ⟨by show (1 : Nat) ≤ 1; decide, rfl⟩) | (cases e; done) | dsimp only
  case alloc el => exact cAlloc_ef hT I e
  case box el x =>
    obtain ⟨a, h1, h2, e1⟩ := ev_ok e ht hf
    rw [h1]; exact box_ef I h2 e1
  case buildSlice tt n ps =>
    obtain ⟨us, h1, h2, e1⟩ := evp_ok ht hf _ e
    exact opBuildSlice_ef hT I (by simpa using h1) h2 e1
  case store tt a x =>
    obtain ⟨a, h1, h2, e1⟩ := ev_ok e ht hf
    obtain ⟨b, h3, h4, e2⟩ := ev_ok e1 ht hf
    rw [h1, h3]; exact opStore_ef hT I h4 e2
  case convert s d x =>
    obtain ⟨a, h1, h2, e1⟩ := ev_ok e ht hf
    rw [h1]; exact opConv_ef hT hV I h2 e1
  case makeMap tt r =>
    cases r with
    | none => exact cMakeMap_ef I e
    | some r => cases e
  case makeSlice tt l c =>
    obtain ⟨a, h1, h2, e1⟩ := ev_ok e ht hf
    obtain ⟨b, h3, h4, e2⟩ := ev_ok e1 ht hf
    obtain ⟨k1, n, rfl, e3⟩ := asN_ok (v := a) e2
    obtain ⟨k2, c, rfl, e4⟩ := asN_ok (v := b) e3
    rw [h1, h3]
    simp only [conc]
    exact opMakeSlice_ef hT I e4
  case slice tt x lo hi mx =>
    obtain ⟨a, h1, h2, e1⟩ := ev_ok e ht hf
    obtain ⟨l, h3, h4, e2⟩ := evo_ok e1 ht hf
    obtain ⟨q, h5, h6, e3⟩ := evo_ok e2 ht hf
    obtain ⟨z, h7, h8, e4⟩ := evo_ok e3 ht hf
    obtain ⟨hc, e5⟩ := chk_ok e4
    have hx : okMx q z := by
      intro hz
      cases z with
      | none => exact absurd rfl hz
      | some z => cases q with
        | none => cases hc
        | some q => simp
    rw [h1, h3, h5, h7]
    exact opSlice_ef hT I h2 hx e5
  case mapUpdate tt m k x =>
    obtain ⟨a, h1, h2, e1⟩ := ev_ok e ht hf
    obtain ⟨b, h3, h4, e2⟩ := ev_ok e1 ht hf
    obtain ⟨c, h5, h6, e3⟩ := ev_ok e2 ht hf
    rw [h1, h3, h5]
    exact opUpdate_ef hT I h4 h6 e3
  case range tt x =>
    obtain ⟨a, h1, h2, e1⟩ := ev_ok e ht hf
    rw [h1]; exact opRange_ef hT I h2 e1
  case next x s =>
    obtain ⟨a, h1, h2, e1⟩ := ev_ok e ht hf
    rw [h1]; exact opNext_ef I e1
  case call c =>
    obtain ⟨f, as, ts⟩ := c
    cases f with
    | value f => cases e
    | invoke a b => cases e
    | builtin b =>
      obtain ⟨us, h1, h2, e1⟩ := evs_ok ht hf _ e
      obtain ⟨tt, ts', hts, e2⟩ := cons_ok e1
      have ht0 : ts[0]? = some tt := by
        rw [← Array.getElem?_toList, hts]; rfl
      have hargs := arr_map h1
      have start : ∀ {s : Sem Next}, builtin b ts o.type (as.map fun | .const _ => true | _ => false) (as.map (rho ct)) = s → Ef P φ h w s v h' → Ef P φ h w (do let d ← resolve (rho ct) ⟨.builtin b, as, ts⟩ o.type; invoke d.target d.args) v h' := by
        rintro s rfl ⟨φ', w', n, hr, rest⟩
        exact ⟨φ', w', n, runs_bind (runs_pure _ w) hr, rest⟩
      cases b <;> first | (exfalso; exact hk ⟨by decide, rfl⟩) | (exfalso; exact hk ⟨by show (0 : Nat) ≤ 1; decide, rfl⟩) | (exfalso; exact hk ⟨by show (1 : Nat) ≤ 1; decide, rfl⟩) | (cases e2; done) | skip
      case append =>
        obtain ⟨s, x, rfl, e3⟩ := two_ok e2
        obtain ⟨xt, ts'', rfl, e4⟩ := cons_ok e3
        refine start rfl (opAppend_ef hT I ht0 (xt := xt) ?_ (by rw [hargs]; simp [concL]) (by rw [hargs]; simp [concL]) (by simp only [fineL] at h2; exact h2.1) e4)
        rw [← Array.getElem?_toList, hts]; rfl
      case copy =>
        obtain ⟨d, s, rfl, e3⟩ := two_ok e2
        exact start rfl (opCopy_ef hT I ht0 (by rw [hargs]; simp [concL]) (by rw [hargs]; simp [concL]) e3)
      case clear =>
        obtain ⟨x, us', rfl, e3⟩ := cons_ok e2
        obtain ⟨i, hi, e4⟩ := ty_ok e3
        exact start rfl (opClear_ef hT I ht0 (by rw [hargs]; simp [concL]) ⟨i, hi⟩ e4)
      case unsafeString =>
        obtain ⟨p, n, rfl, e3⟩ := two_ok e2
        refine start (s := do pure (.value (← Builtin.unsafeString_ ts o.type #[conc φ p, conc φ n]))) ?_ (opUnsafeString_ef hT I ht0 e3)
        rw [hargs]; simp [concL]; rfl
      case unsafeSliceData =>
        obtain ⟨x, us', rfl, e3⟩ := cons_ok e2
        cases us' with
        | cons _ _ => cases e3
        | nil =>
          simp only [fineL] at h2
          refine start (s := do pure (.value (← Builtin.unsafeSliceData_ ts o.type #[conc φ x]))) ?_ (opSliceData_ef I h2.1 e3)
          rw [hargs]; simp [concL]; rfl
end Go.Vint
namespace Go.Vint
variable {P : Program} {E : Env} {φ : Phi} {D : Nat → Prop} {w : World}

/-! ## The machine: frames of every kind -/
def onTodo (fr : Frame) (todo : List Item) : Frame := { fr with todo, mode := .run }
section moves
variable {fr : Frame} {k : List Item} {cs : List Frame}
theorem to_skip : step P (lone (onTodo fr (.code .skip :: k)) cs w) = .next (lone (onTodo fr k) cs w) := step_lone_go (by simp [stepG, stepG.exec, onTodo])
theorem to_label {l : Nat} : step P (lone (onTodo fr (.code (.label l) :: k)) cs w) = .next (lone (onTodo fr k) cs w) := step_lone_go (by simp [stepG, stepG.exec, onTodo])
theorem to_inBlock {id : Nat} : step P (lone (onTodo fr (.inBlock id :: k)) cs w) = .next (lone (onTodo fr k) cs w) := step_lone_go (by simp [stepG, stepG.exec, onTodo])
theorem to_inScope {c : Code} : step P (lone (onTodo fr (.inScope c :: k)) cs w) = .next (lone (onTodo fr k) cs w) := step_lone_go (by simp [stepG, stepG.exec, onTodo])
theorem to_seq {x y : Code} : step P (lone (onTodo fr (.code (.seq x y) :: k)) cs w) = .next (lone (onTodo fr (.code x :: .code y :: k)) cs w) := step_lone_go (by simp [stepG, stepG.exec, onTodo])
theorem to_block {id : Nat} {c : Code} : step P (lone (onTodo fr (.code (.block id c) :: k)) cs w) = .next (lone (onTodo fr (.code c :: .inBlock id :: k)) cs w) := step_lone_go (by simp [stepG, stepG.exec, onTodo])
theorem to_scope {c : Code} : step P (lone (onTodo fr (.code (.scope c) :: k)) cs w) = .next (lone (onTodo fr (.code c :: .inScope c :: k)) cs w) := step_lone_go (by simp [stepG, stepG.exec, onTodo])
theorem to_loop {c : Code} : step P (lone (onTodo fr (.code (.loop c) :: k)) cs w) = .next (lone (onTodo fr (.code c :: .inLoop c :: k)) cs w) := step_lone_go (by simp [stepG, stepG.exec, onTodo])
theorem to_inLoop {c : Code} : step P (lone (onTodo fr (.inLoop c :: k)) cs w) = .next (lone (onTodo fr (.code c :: .inLoop c :: k)) cs w) := step_lone_go (by simp [stepG, stepG.exec, onTodo])
theorem to_exit {id : Nat} {k' : List Item} (h : exitTo id k = some k') : step P (lone (onTodo fr (.code (.exit id) :: k)) cs w) = .next (lone (onTodo fr k') cs w) :=
  step_lone_go (by simp [stepG, stepG.exec, onTodo, h])
theorem rho_eval (fr : Frame) (x : Operand) : fr.eval x = rho fr.tmps x := by cases x <;> rfl
theorem to_cond {c : Operand} {x y : Code} {b : Bool} (h : rho fr.tmps c = .bool b) : step P (lone (onTodo fr (.code (.cond c x y) :: k)) cs w) = .next (lone (onTodo fr (.code (if b then x else y) :: k)) cs w) :=
  step_lone_go (by
    have h' : Frame.eval { fr with todo := .code (.cond c x y) :: k, mode := .run } c = .bool b := by rw [rho_eval]; exact h
    simp [stepG, stepG.exec, onTodo, h'])
theorem to_region {id : Nat} {ops : Array Oper} : step P (lone (onTodo fr (.code (.region id ops false) :: k)) cs w) = .next (lone (onTodo fr (.inRegion ops (List.range ops.size) :: k)) cs w) :=
  step_lone_go (by simp [stepG, stepG.exec, onTodo])
theorem to_draw {id : Nat} {ops : Array Oper} : step P (lone (onTodo fr (.code (.region id ops true) :: k)) cs w) =
    .next (lone (onTodo fr (.inRegion ops (Region.schedule (P.follows .mixedOrders) ops (w.tape w.drawn (.order fr.fn id))) :: k)) cs (dr w)) :=
  step_lone_go (by simp [stepG, stepG.exec, onTodo, choose, Sem.run, Question.forced, Question.cut, dr])
theorem to_regionEnd {ops : Array Oper} : step P (lone (onTodo fr (.inRegion ops [] :: k)) cs w) = .next (lone (onTodo fr k) cs w) := step_lone_go (by simp [stepG, stepG.exec, onTodo])

/-- a frame whose temporary is written -/
def putD (fr : Frame) (dst : Option Nat) (v : Value) : Frame := match dst with
  | some d => { fr with tmps := fr.tmps.setIfInBounds d v }
  | none => fr
theorem finish_on (ops : Array Oper) (i : Nat) (rest : List Nat) (v : Value) :
    (onTodo fr (.inRegion ops (i :: rest) :: k)).finish v = onTodo (putD fr ((ops[i]?).bind (·.dst)) v) (.inRegion ops rest :: k) := by
  cases h : (ops[i]?).bind (·.dst) <;> simp [Frame.finish, onTodo, putD, h]
theorem to_opSkip {ops : Array Oper} {i : Nat} {rest : List Nat} (h : ((ops[i]?).map (Region.wanted · (yielded ops fr.tmps))).getD false = false) :
    step P (lone (onTodo fr (.inRegion ops (i :: rest) :: k)) cs w) = .next (lone (onTodo (putD fr ((ops[i]?).bind (·.dst)) undef) (.inRegion ops rest :: k)) cs w) := by
  rw [← finish_on]
  exact step_lone_go (by
    have h' := h
    simp only [onTodo] at *
    simp [stepG, stepG.exec, h'])
end moves

/-- how the machine asks for a call, or for a value, at a frame -/
structure Asks (P : Program) (m : Machine) (fr : Frame) (cs : List Frame) (w : World) (s : Sem Next) : Prop where
  value : ∀ v w1, s.run P w = .ok (.value v) w1 → step P m = .next (lone (fr.finish v) cs w1)
  skip : ∀ w1, s.run P w = .ok .skip w1 → step P m = .next (lone (fr.finish undef) cs w1)
  enter : ∀ f as w1, s.run P w = .ok (.enter f as) w1 → step P m = .next (lone (Frame.enter P f as .normal) (fr :: cs) w1)
  round : ∀ l f ts a b w1, s.run P w = .ok (.round l f ts a b) w1 → step P m = .next (lone (Frame.round l f ts a b .normal) (fr :: cs) w1)
theorem asks_op {fr : Frame} {k : List Item} {cs : List Frame} {ops : Array Oper} {i : Nat} {rest : List Nat} {o : Oper} (ho : ops[i]? = some o) (hw : Region.wanted o (yielded ops fr.tmps) = true) (hd : ∀ c, o.op ≠ .defer c) :
    Asks P (lone (onTodo fr (.inRegion ops (i :: rest) :: k)) cs w) (onTodo fr (.inRegion ops (i :: rest) :: k)) cs w (execOp (rho fr.tmps) o) := by
  have he : (onTodo fr (.inRegion ops (i :: rest) :: k)).eval = rho fr.tmps := funext fun x => rho_eval _ x
  have hg : stepG P true { frame := onTodo fr (.inRegion ops (i :: rest) :: k), callers := cs, status := .running, dying := none } w =
      stepG.apply P true (onTodo fr (.inRegion ops (i :: rest) :: k)) cs none (execOp (rho fr.tmps) o) w := by
    rw [← he]
    have hwi : ((some o).map (Region.wanted · (yielded ops fr.tmps))).getD false = true := hw
    simp only [onTodo]
    simp only [stepG, stepG.exec, stepG.oper, Frame.oper?, ho]
    rw [if_pos hwi]
    cases hr : fr.roundOf with
    | none => rfl
    | some l => cases hop : o.op <;> first | rfl | exact absurd hop (hd _)
  refine ⟨?_, ?_, ?_, ?_⟩
  · intro v w1 hr
    exact step_lone_go (by rw [hg]; simp [stepG.apply, hr])
  · intro w1 hr
    exact step_lone_go (by rw [hg]; simp [stepG.apply, hr])
  · intro f as w1 hr
    exact step_lone_go (by rw [hg]; simp [stepG.apply, hr, onTodo])
  · intro l f ts a b w1 hr
    exact step_lone_go (by rw [hg]; simp [stepG.apply, hr, onTodo])

/-- the marks of the loops that a frame ran -/
def markOf (r : Nat) : Deferred := { target := .collected r, args := #[] }
def Marks (w : World) (s0 : Nat) (ds : List Deferred) : Prop :=
  ∃ rs : List Nat, ds = rs.map markOf ∧ rs.Nodup ∧ ∀ r ∈ rs, s0 ≤ r ∧ w.heap[r]? = some (.deferred (some []))
/-- a mark's block is none of the heap's -/
theorem Mem.noMark {h : H} (m : Mem P φ h w) {r : Nat} (hr : w.heap[r]? = some (.deferred (some []))) {b : Nat} (hb : Live h b) : φ.blk b ≠ r := by
  rintro rfl
  obtain ⟨o, ho, hd⟩ := hb
  have := m.rel b o ho
  cases o with
  | dead => exact hd rfl
  | cells cs e g fl fh => obtain ⟨ccs, lo, hi, h1, _⟩ := this; rw [hr] at h1; cases h1
  | map es c => obtain ⟨ces, h1, _⟩ := this; rw [hr] at h1; cases h1
  | miter m s l => have := this.2; rw [hr] at this; cases this
  | siter s p => have := this.2; rw [hr] at this; cases this
  | loop st pend tmps ps as bd => obtain ⟨L, h1, _⟩ := this; rw [hr] at h1; cases h1
theorem Marks.ext {φ' : Phi} {h h' : H} {w' : World} {s0 : Nat} {ds : List Deferred} (m : Mem P φ h w) (hm : Marks w s0 ds) (x : Ext φ h w φ' h' w') : Marks w' s0 ds := by
  obtain ⟨rs, h1, h2, h3⟩ := hm
  refine ⟨rs, h1, h2, fun r hr => ⟨(h3 r hr).1, ?_⟩⟩
  rw [x.keep r (lt_of_get (h3 r hr).2) fun b hb => m.noMark (h3 r hr).2 hb.live]
  exact (h3 r hr).2

/-- a frame that runs code -/
structure Fr (φ : Phi) (h : H) (w : World) (s0 : Nat) (t : Tm) (fr : Frame) : Prop where
  rel : TRel φ t fr.tmps
  fine : fineT φ (· < h.next) t
  marks : Marks w s0 fr.defers
  base : s0 ≤ w.heap.size
def sameFr (fr fr' : Frame) : Prop := fr'.fn = fr.fn ∧ fr'.kind = fr.kind ∧ fr'.roundOf = fr.roundOf ∧ (fr.roundOf ≠ none → fr'.defers = fr.defers)
theorem sameFr.refl (fr : Frame) : sameFr fr fr := ⟨rfl, rfl, rfl, fun _ => rfl⟩
theorem sameFr.trans {a b c : Frame} (x : sameFr a b) (y : sameFr b c) : sameFr a c :=
  ⟨y.1.trans x.1, y.2.1.trans x.2.1, y.2.2.1.trans x.2.2.1, fun h => (y.2.2.2 (by rw [x.2.2.1]; exact h)).trans (x.2.2.2 h)⟩

/-- where a piece of code ends -/
def Ends (P : Program) (x : X) (fr fr' : Frame) (todo k : List Item) (cs : List Frame) (w w' : World) : Prop := match x with
  | .go => Steps P (lone (onTodo fr todo) cs w) (lone (onTodo fr' k) cs w')
  | .exit id => ∃ k1, exitTo id k1 = exitTo id k ∧ Steps P (lone (onTodo fr todo) cs w) (lone (onTodo fr' (.code (.exit id) :: k1)) cs w')
  | .ret => ∃ k1, Steps P (lone (onTodo fr todo) cs w) (lone (onTodo fr' (.code .ret :: k1)) cs w')
theorem Ends.of_steps {x : X} {fr fr1 fr' : Frame} {todo todo1 k : List Item} {cs : List Frame} {w1 w' : World} (h : Steps P (lone (onTodo fr todo) cs w) (lone (onTodo fr1 todo1) cs w1)) (e : Ends P x fr1 fr' todo1 k cs w1 w') :
    Ends P x fr fr' todo k cs w w' := by
  cases x with
  | go => exact h.trans e
  | exit id => obtain ⟨k1, h1, h2⟩ := e; exact ⟨k1, h1, h.trans h2⟩
  | ret => obtain ⟨k1, h2⟩ := e; exact ⟨k1, h.trans h2⟩
end Go.Vint
namespace Go.Vint
variable {P : Program} {E : Env} {φ : Phi} {D : Nat → Prop} {w : World} {h h' : H} {t t' : Tm} {ct : Array Value} {v : V}

theorem succ_ble {a b : Nat} (h : Nat.ble (Nat.succ a) b = true) : a < b := ble_le h

/-- a temporary is written, within a region -/
theorem setR_ok {β : Type} {d : Nat} {k : Tm → R β} {r : β} (e : setR t d v k = .ok r) : d < t.n ∧ k ⟨t.n, t.lv, t.t, (d, v) :: t.env⟩ = .ok r := by
  obtain ⟨n, lv, tr, env⟩ := t
  obtain ⟨h1, h2⟩ := chk_ok e
  exact ⟨succ_ble h1, h2⟩
theorem at_put (d i : Nat) : (⟨t.n, t.lv, t.t, (d, v) :: t.env⟩ : Tm).at i = if i = d then some v else t.at i := by
  simp only [Tm.at, List.find?_cons]
  have : Nat.beq d i = decide (i = d) := by
    rw [beq_dec, Bool.eq_iff_iff]; simp only [decide_eq_true_eq]; exact ⟨fun h => h.symm, fun h => h.symm⟩
  rw [this]
  by_cases hi : i = d
  · simp [hi]
  · simp [hi]
theorem getD_set (ct : Array Value) (d i : Nat) (x : Value) (hd : d < ct.size) : (ct.setIfInBounds d x).getD i undef = if i = d then x else ct.getD i undef := by
  simp only [Array.getD_eq_getD_getElem?, Array.getElem?_setIfInBounds]
  by_cases hi : d = i
  · subst hi; simp [hd]
  · rw [if_neg hi, if_neg (fun h => hi h.symm)]
theorem TRel.put (ht : TRel φ t ct) {d : Nat} (hd : d < t.n) : TRel φ ⟨t.n, t.lv, t.t, (d, v) :: t.env⟩ (ct.setIfInBounds d (conc φ v)) where
  size := by simpa using ht.size
  small := ht.small
  wf := fun x hx => by
    rcases List.mem_cons.1 hx with rfl | hx
    · exact hd
    · exact ht.wf x hx
  at' := fun i u hu => by
    rw [at_put] at hu
    rw [getD_set _ _ _ _ (by rw [ht.size]; exact hd)]
    by_cases hi : i = d
    · rw [if_pos hi] at hu ⊢; cases hu; rfl
    · rw [if_neg hi] at hu ⊢; exact ht.at' i u hu
theorem fineT.put (hf : fineT φ D t) (hv : fineV φ D v) {d : Nat} : fineT φ D ⟨t.n, t.lv, t.t, (d, v) :: t.env⟩ := fun i u hu => by
  rw [at_put] at hu
  by_cases hi : i = d
  · rw [if_pos hi] at hu; cases hu; exact hv
  · rw [if_neg hi] at hu; exact hf i u hu
/-- the temporary that an operation writes, if any -/
def Tm.put (t : Tm) (dst : Option Nat) (v : V) : Tm := match dst with
  | none => t
  | some d => ⟨t.n, t.lv, t.t, (d, v) :: t.env⟩
theorem seqA_eq {α β : Type} {f : α → (α → β) → β} (hf : ∀ a k, f a k = k a) (l : List α) : ∀ k : List α → β, seqA f l k = k l := by
  induction l with
  | nil => intro k; rfl
  | cons x l ih =>
    intro k
    show f x (fun v => seqA f l fun vs => k (v :: vs)) = _
    rw [hf]
    exact ih _
theorem seqV_eq {β : Type} (d : Nat) : ∀ (v : V) (k : V → β), seqV d v k = k v := by
  induction d with
  | zero => intro v k; rfl
  | succ d ih =>
    intro v k
    cases v with
    | bool b => cases b <;> rfl
    | int x n =>
      show seqK x (fun x => seqInt n fun n => k (.int x n)) = _
      cases x <;> exact seqInt_eq n (fun n => k (.int _ n))
    | str s =>
      obtain ⟨n, l⟩ := s
      show seqNat n (fun n => seqNat l fun l => k (.str ⟨n, l⟩)) = _
      rw [seqNat_eq, seqNat_eq]
    | ptr b o => show seqNat b (fun b => seqNat o fun o => k (.ptr b o)) = _; rw [seqNat_eq, seqNat_eq]
    | sl b o l c => show seqNat b (fun b => seqNat o fun o => seqNat l fun l => seqNat c fun c => k (.sl b o l c)) = _; rw [seqNat_eq, seqNat_eq, seqNat_eq, seqNat_eq]
    | gs b o l c => show seqNat b (fun b => seqNat o fun o => seqNat l fun l => seqNat c fun c => k (.gs b o l c)) = _; rw [seqNat_eq, seqNat_eq, seqNat_eq, seqNat_eq]
    | es b => exact seqNat_eq b (fun b => k (.es b))
    | map b => exact seqNat_eq b (fun b => k (.map b))
    | yield b => exact seqNat_eq b (fun b => k (.yield b))
    | fn f a c =>
      show seqNat f (fun f => seqA (seqV d) a fun a => seqA (seqV d) c fun c => k (.fn f a c)) = _
      rw [seqNat_eq, seqA_eq ih, seqA_eq ih]
    | agg l => show seqA (seqV d) l (fun l => k (.agg l)) = _; rw [seqA_eq ih]
    | tup l => show seqA (seqV d) l (fun l => k (.tup l)) = _; rw [seqA_eq ih]
    | _ => rfl
theorem dstK_ok {β : Type} {dst : Option Nat} {k : Tm → R β} {r : β} {s : Bool} (e : dstK s t dst v k = .ok r) : (∀ d, dst = some d → d < t.n) ∧ k (t.put dst v) = .ok r := by
  cases dst with
  | none => exact ⟨fun _ h => (by cases h), e⟩
  | some d =>
    have e : (Bool.casesOn s (setR t d v k) (seqV 4 v fun v => setR t d v k) : R β) = .ok r := e
    rw [seqV_eq] at e
    have e : setR t d v k = .ok r := by cases s <;> exact e
    obtain ⟨h1, h2⟩ := setR_ok e
    exact ⟨fun _ h => (by cases h; exact h1), h2⟩
theorem putD_defers (fr : Frame) (dst : Option Nat) (x : Value) : (putD fr dst x).defers = fr.defers := by cases dst <;> rfl
theorem putD_same (fr : Frame) (dst : Option Nat) (x : Value) : sameFr fr (putD fr dst x) := by cases dst <;> exact ⟨rfl, rfl, rfl, fun _ => rfl⟩
theorem Fr.put {s0 : Nat} {fr : Frame} (F : Fr φ h w s0 t fr) (hv : fineV φ (· < h.next) v) {dst : Option Nat} (hd : ∀ d, dst = some d → d < t.n) : Fr φ h w s0 (t.put dst v) (putD fr dst (conc φ v)) := by
  cases dst with
  | none => exact F
  | some d => exact ⟨F.rel.put (hd d rfl), F.fine.put hv, F.marks, F.base⟩

/-! ## A region's end -/
theorem flushK_ok {β : Type} (lv : Nat) (env : List (Nat × V)) : ∀ (tr : T V) (k : T V → β), (∀ x ∈ env, x.1 < 1024) →
    ∃ tr', flushK lv env tr k = k tr' ∧ ∀ i, bit lv i = true → tr'.get 5 i = match env.find? (fun x => Nat.beq x.1 i) with | some x => some x.2 | none => tr.get 5 i := by
  induction env with
  | nil => intro tr k _; exact ⟨tr, rfl, fun i _ => rfl⟩
  | cons x env ih =>
    intro tr k hw
    obtain ⟨d, u⟩ := x
    have hd : d < 1024 := hw (d, u) (List.mem_cons_self ..)
    have hw' : ∀ x ∈ env, x.1 < 1024 := fun x hx => hw x (List.mem_cons_of_mem _ hx)
    have e : flushK lv ((d, u) :: env) tr k = Bool.casesOn (bit lv d) (flushK lv env tr k) (flushK lv env tr fun tr => tr.setK 5 d u k) := rfl
    rw [e]
    cases hb : bit lv d with
    | false =>
      obtain ⟨tr', h1, h2⟩ := ih tr k hw'
      refine ⟨tr', h1, fun i hi => ?_⟩
      rw [h2 i hi, List.find?_cons]
      have : Nat.beq d i = false := by
        cases hbi : Nat.beq d i with
        | false => rfl
        | true => rw [beq_eq hbi, hi] at hb; cases hb
      rw [this]
    | true =>
      obtain ⟨tr', h1, h2⟩ := ih tr (fun tr => tr.setK 5 d u k) hw'
      refine ⟨tr'.set 5 d u, h1.trans (T.setK_eq 5 _ _ _ _), fun i hi => ?_⟩
      rw [T.get_set 5 _ _ _ _ (show d < 4 ^ 5 by exact hd), List.find?_cons]
      by_cases hdi : i = d
      · subst hdi
        rw [if_pos rfl, show Nat.beq i i = true from Nat.beq_refl i]
      · rw [if_neg hdi, h2 i hi]
        have : Nat.beq d i = false := by
          cases hbi : Nat.beq d i with
          | false => rfl
          | true => exact absurd (beq_eq hbi).symm hdi
        rw [this]
theorem flushT_ok {β : Type} (k : Tm → β) (hs : t.n ≤ 1024) (hw : ∀ x ∈ t.env, x.1 < t.n) :
    ∃ t', flushT t k = k t' ∧ t'.n = t.n ∧ t'.env = [] ∧ ∀ i u, t'.at i = some u → t.at i = some u := by
  obtain ⟨n, lv, tr, env⟩ := t
  obtain ⟨tr', h1, h2⟩ := flushK_ok lv env tr (fun tr => k ⟨n, lv, tr, []⟩) (fun x hx => Nat.lt_of_lt_of_le (hw x hx) hs)
  refine ⟨⟨n, lv, tr', []⟩, h1, rfl, rfl, fun i u hu => ?_⟩
  have hu : (if bit lv i = true then some ((tr'.get 5 i).getD .undef) else none) = some u := hu
  by_cases hb : bit lv i = true
  · rw [if_pos hb, h2 i hb] at hu
    unfold Tm.at
    cases hf : env.find? (fun x => Nat.beq x.1 i) with
    | some x => rw [hf] at hu; simpa using hu
    | none => rw [hf] at hu; simp only [Option.map_none]; show (if bit lv i = true then _ else none) = _; rw [if_pos hb]; exact hu
  · rw [if_neg hb] at hu; cases hu
theorem Fr.sub {s0 : Nat} {fr : Frame} (F : Fr φ h w s0 t fr) (hn : t'.n = t.n) (he : t'.env = []) (ha : ∀ i u, t'.at i = some u → t.at i = some u) : Fr φ h w s0 t' fr :=
  ⟨⟨by rw [hn]; exact F.rel.size, by rw [hn]; exact F.rel.small, by rw [he]; simp, fun i u hu => F.rel.at' i u (ha i u hu)⟩, fun i u hu => F.fine i u (ha i u hu), F.marks, F.base⟩

/-! ## Guards -/
theorem wantedK_ok {β : Type} {ops : Array Oper} {o : Oper} {k : Bool → R β} {r : β} (ht : TRel φ t ct) (e : wantedK ops.toList t o k = .ok r) : k (Region.wanted o (yielded ops ct)) = .ok r := by
  unfold wantedK at e
  unfold Region.wanted
  cases hg : o.guard with
  | none => rw [hg] at e; exact e
  | some g =>
    obtain ⟨j, want⟩ := g
    rw [hg] at e
    obtain ⟨p, hp, e1⟩ := opt_ok (x := nth ops.toList j) e
    rw [nth_eq, Array.getElem?_toList] at hp
    obtain ⟨d, hd, e2⟩ := opt_ok (x := p.dst) e1
    obtain ⟨u, hu, e3⟩ := evT_ok e2
    have hc := ht.at' d u hu
    have hy : yielded ops ct j = match conc φ u with | .bool b => some b | _ => none := by
      unfold yielded
      rw [hp]
      simp only [Option.bind_some, hd]
      rw [Array.getD_eq_getD_getElem?] at hc
      cases hct : ct[d]? with
      | none =>
        rw [hct] at hc
        simp only [Option.getD_none] at hc
        rw [← hc]; rfl
      | some x =>
        rw [hct] at hc
        simp only [Option.getD_some] at hc
        rw [hc]
        cases conc φ u <;> rfl
    show k (yielded ops ct j == some want) = .ok r
    rw [hy]
    cases u with
    | bool b =>
      simp only [conc]
      cases b <;> cases want <;> exact e3
    | _ =>
      simp only [conc]
      first
        | exact e3
        | (have : (none == some want) = false := rfl
           exact e3)
end Go.Vint
namespace Go.Vint
variable {P : Program} {E : Env} {φ : Phi} {D : Nat → Prop} {w : World} {h h' : H} {t t' : Tm} {ct : Array Value} {v : V} {ih : Ih}

/-- from a frame that asks, the machine comes to the frame that has its value -/
def Gives (P : Program) (φ : Phi) (h : H) (w : World) (m : Machine) (fr : Frame) (cs : List Frame) (v : V) (h' : H) : Prop :=
  ∃ φ' w', Ext φ h w φ' h' w' ∧ Inv P φ' h' w' ∧ fineV φ' (· < h'.next) v ∧ Steps P m (lone (fr.finish (conc φ' v)) cs w')
def SoundCall (P : Program) (call : V → List V → H → R (V × H)) : Prop :=
  ∀ f args h v h', call f args h = .ok (v, h') → ∀ φ w, Inv P φ h w → fineV φ (· < h.next) f → fineL φ (· < h.next) args →
    ∀ m fr cs (s : Sem Next), s.run P w = (Deferred.ofValue (conc φ f) (concL φ args).toArray >>= fun d => invoke d.target d.args).run P w → Asks P m fr cs w s → Gives P φ h w m fr cs v h'
def SoundExec (P : Program) (exec : Code → Tm → H → R (X × Tm × H)) : Prop :=
  ∀ c t h x t' h', exec c t h = .ok (x, t', h') → ∀ φ w s0 fr k cs, Inv P φ h w → Fr φ h w s0 t fr → (fr.roundOf = none ∨ noRange c = true) →
    ∃ φ' w' fr', Ext φ h w φ' h' w' ∧ Inv P φ' h' w' ∧ sameFr fr fr' ∧ Fr φ' h' w' s0 t' fr' ∧ Ends P x fr fr' (.code c :: k) k cs w w'
/-- what running the rest of a region comes to -/
def OpsTo (P : Program) (φ : Phi) (h : H) (w : World) (s0 : Nat) (fr : Frame) (todo k : List Item) (cs : List Frame) (t' : Tm) (h' : H) : Prop :=
  ∃ φ' w' fr', Ext φ h w φ' h' w' ∧ Inv P φ' h' w' ∧ sameFr fr fr' ∧ Fr φ' h' w' s0 t' fr' ∧ Steps P (lone (onTodo fr todo) cs w) (lone (onTodo fr' k) cs w')
def SoundOps (P : Program) (ops : List Oper → List Oper → Tm → H → R (Tm × H)) : Prop :=
  ∀ (all : Array Oper) i t h t' h', ops all.toList (all.toList.drop i) t h = .ok (t', h') → ∀ φ w s0 fr k cs, Inv P φ h w → Fr φ h w s0 t fr →
    OpsTo P φ h w s0 fr (.inRegion all (List.range' i (all.size - i)) :: k) k cs t' h'
structure Sound (P : Program) (ih : Ih) : Prop where
  call : SoundCall P ih.call
  exec : SoundExec P ih.exec
  ops : SoundOps P ih.ops

theorem bind_ok {α β : Type} {x : R α} {k : α → R β} {r : β} (e : R.bind x k = .ok r) : ∃ a, x = .ok a ∧ k a = .ok r := by
  cases x with
  | ok a => exact ⟨a, rfl, e⟩
  | no c => cases e

theorem Ef.gives {m : Machine} {fr : Frame} {cs : List Frame} {s : Sem Next} (ef : Ef P φ h w s v h') (a : Asks P m fr cs w s) : Gives P φ h w m fr cs v h' := by
  obtain ⟨φ', w', n, h1, h2, h3, h4, h5⟩ := ef
  refine ⟨φ', w', h3, h4, h5, ?_⟩
  cases n with
  | value x => cases h2; exact .one (a.value _ _ h1)
  | skip => rw [← Option.some.inj h2]; exact .one (a.skip _ h1)
  | _ => cases h2

/-- every operation -/
theorem oper_gives (hT : TysOk P E) (hV : Views P E) (S : SoundCall P ih.call) (I : Inv P φ h w) (ht : TRel φ t ct) (hf : fineT φ (· < h.next) t) (o : Oper) {m : Machine} {fr : Frame} {cs : List Frame}
    (e : oper E ih t h o.op = .ok (v, h')) (a : Asks P m fr cs w (execOp (rho ct) o)) : Gives P φ h w m fr cs v h' := by
  by_cases hc : ∃ f as ts, o.op = .call ⟨.value f, as, ts⟩
  · obtain ⟨f, as, ts, ho⟩ := hc
    rw [ho] at e
    obtain ⟨fv, h1, h2, e1⟩ := ev_ok e ht hf
    obtain ⟨us, h3, h4, e2⟩ := evs_ok ht hf _ e1
    refine S fv us h v h' e2 φ w I h2 h4 m fr cs _ ?_ a
    unfold execOp
    rw [ho]
    dsimp only
    have : resolve (rho ct) ⟨.value f, as, ts⟩ o.type = Deferred.ofValue (rho ct f) (as.map (rho ct)) := rfl
    rw [this, h1, arr_map h3]
  · have e1 : op1 E t h o.op = .ok (v, h') := by
      cases ho : o.op <;> rw [ho] at e <;> first | exact e | skip
      case call c =>
        obtain ⟨f, as, ts⟩ := c
        cases f with
        | value f => exact absurd ⟨f, as, ts, ho⟩ hc
        | invoke _ _ => cases e
        | builtin b => exact e
    exact (op1_ef hT hV I ht hf o e1).gives a
theorem oper_noDefer {o : Op} (e : oper E ih t h o = .ok (v, h')) : ∀ c, o ≠ .defer c := by
  rintro c rfl
  cases e

/-- one operation within a region: skipped or run -/
theorem opStep (hT : TysOk P E) (hV : Views P E) (S : SoundCall P ih.call) (I : Inv P φ h w) {s0 : Nat} {fr : Frame} (F : Fr φ h w s0 t fr) {ops : Array Oper} {i : Nat} {rest : List Nat} {o : Oper} (ho : ops[i]? = some o) {k : List Item} {cs : List Frame}
    {β : Type} {kk : Tm → H → R β} {r : β}
    (e : wantedK ops.toList t o (fun b => Bool.casesOn b (dstK E.strict t o.dst .undef fun t => kk t h) (R.bind (oper E ih t h o.op) fun r => Prod.casesOn r fun v h => dstK E.strict t o.dst v fun t => kk t h)) = .ok r) :
    ∃ t1 h1, kk t1 h1 = .ok r ∧ OpsTo P φ h w s0 fr (.inRegion ops (i :: rest) :: k) (.inRegion ops rest :: k) cs t1 h1 := by
  have e1 := wantedK_ok F.rel e
  cases hw : Region.wanted o (yielded ops fr.tmps) with
  | false =>
    rw [hw] at e1
    obtain ⟨hd, e2⟩ := dstK_ok (v := .undef) e1
    refine ⟨_, _, e2, φ, w, putD fr o.dst (conc φ .undef), Ext.refl _ _ _ I.mem.llt, I, putD_same _ _ _, F.put (by simp [fineV]) hd, .one ?_⟩
    have := to_opSkip (P := P) (w := w) (fr := fr) (k := k) (cs := cs) (ops := ops) (i := i) (rest := rest) (by rw [ho]; exact hw)
    rw [ho] at this
    simpa [conc, undef] using this
  | true =>
    rw [hw] at e1
    obtain ⟨⟨v, h1⟩, e2, e3⟩ := bind_ok e1
    obtain ⟨hd, e4⟩ := dstK_ok (v := v) e3
    obtain ⟨φ', w', X, J, hv, hs⟩ := oper_gives hT hV S I F.rel F.fine o e2 (asks_op (k := k) (cs := cs) (rest := rest) ho hw (oper_noDefer e2))
    rw [finish_on, ho] at hs
    refine ⟨_, _, e4, φ', w', putD fr o.dst (conc φ' v), X, J, putD_same _ _ _, ?_, hs⟩
    have F' : Fr φ' h1 w' s0 t fr :=
      ⟨TRel_same X.same F.fine F.rel, fineT_same X.same (fun b hb => Nat.lt_of_lt_of_le hb X.next) F.fine, F.marks.ext I.mem X, Nat.le_trans F.base X.size⟩
    exact F'.put hv hd
theorem OpsTo.trans {φ1 : Phi} {w1 : World} {h1 : H} {s0 : Nat} {fr fr1 : Frame} {todo todo1 k : List Item} {cs : List Frame} (I : Inv P φ h w) (X : Ext φ h w φ1 h1 w1) (s : sameFr fr fr1)
    (st : Steps P (lone (onTodo fr todo) cs w) (lone (onTodo fr1 todo1) cs w1)) (b : OpsTo P φ1 h1 w1 s0 fr1 todo1 k cs t' h') : OpsTo P φ h w s0 fr todo k cs t' h' := by
  obtain ⟨φ', w', fr', a1, a2, a3, a4, a5⟩ := b
  exact ⟨φ', w', fr', X.trans I.mem.llt a1, a2, s.trans a3, a4, st.trans a5⟩

theorem opsF_sound (hT : TysOk P E) (hV : Views P E) (S : Sound P ih) : SoundOps P (opsF E ih) := by
  intro all i t h t' h' e φ w s0 fr k cs I F
  cases hl : all.toList.drop i with
  | nil =>
    rw [hl] at e
    cases e
    have hsz : all.size ≤ i := by
      have := congrArg List.length hl
      simp at this; omega
    rw [show all.size - i = 0 from by omega]
    exact ⟨φ, w, fr, Ext.refl _ _ _ I.mem.llt, I, sameFr.refl _, F, .one to_regionEnd⟩
  | cons o l =>
    rw [hl] at e
    have hlt : i < all.size := by
      have := congrArg List.length hl
      simp at this; omega
    have ho : all[i]? = some o := by
      have := congrArg (fun l => l[0]?) hl
      simpa using this
    have hl' : l = all.toList.drop (i + 1) := by
      have := congrArg (fun l => l.drop 1) hl
      simpa using this.symm
    subst hl'
    rw [show all.size - i = (all.size - (i + 1)) + 1 from by omega, List.range'_succ]
    obtain ⟨t1, h1, e1, φ1, w1, fr1, a1, a2, a3, a4, a5⟩ := opStep (P := P) (w := w) (kk := fun t h => ih.ops all.toList (all.toList.drop (i + 1)) t h) (rest := List.range' (i + 1) (all.size - (i + 1))) (k := k) (cs := cs) hT hV S.call I F ho e
    exact OpsTo.trans I a1 a3 a5 (S.ops all (i + 1) t1 h1 t' h' e1 φ1 w1 s0 fr1 k cs a2 a4)
end Go.Vint
namespace Go.Vint
variable {P : Program} {E : Env} {φ : Phi} {D : Nat → Prop} {w : World} {h h' : H} {t t' : Tm} {ct : Array Value} {v : V} {ih : Ih}

/-- what running code comes to -/
def CodeTo (P : Program) (φ : Phi) (h : H) (w : World) (s0 : Nat) (x : X) (fr : Frame) (todo k : List Item) (cs : List Frame) (t' : Tm) (h' : H) : Prop :=
  ∃ φ' w' fr', Ext φ h w φ' h' w' ∧ Inv P φ' h' w' ∧ sameFr fr fr' ∧ Fr φ' h' w' s0 t' fr' ∧ Ends P x fr fr' todo k cs w w'
theorem CodeTo.head {s0 : Nat} {x : X} {fr : Frame} {todo todo1 k : List Item} {cs : List Frame} (st : step P (lone (onTodo fr todo) cs w) = .next (lone (onTodo fr todo1) cs w)) (c : CodeTo P φ h w s0 x fr todo1 k cs t' h') : CodeTo P φ h w s0 x fr todo k cs t' h' := by
  obtain ⟨φ', w', fr', a1, a2, a3, a4, a5⟩ := c
  exact ⟨φ', w', fr', a1, a2, a3, a4, Ends.of_steps (.one st) a5⟩
theorem CodeTo.trans {φ1 : Phi} {w1 : World} {h1 : H} {s0 : Nat} {x : X} {fr fr1 : Frame} {todo todo1 k : List Item} {cs : List Frame} (I : Inv P φ h w) (X : Ext φ h w φ1 h1 w1) (s : sameFr fr fr1)
    (st : Steps P (lone (onTodo fr todo) cs w) (lone (onTodo fr1 todo1) cs w1)) (b : CodeTo P φ1 h1 w1 s0 x fr1 todo1 k cs t' h') : CodeTo P φ h w s0 x fr todo k cs t' h' := by
  obtain ⟨φ', w', fr', a1, a2, a3, a4, a5⟩ := b
  exact ⟨φ', w', fr', X.trans I.mem.llt a1, a2, s.trans a3, a4, Ends.of_steps st a5⟩
/-- with items behind that a jump passes -/
theorem CodeTo.pass {s0 : Nat} {x : X} {fr : Frame} {todo : List Item} {y : Item} {k : List Item} {cs : List Frame} (hx : ∀ id, exitTo id (y :: k) = exitTo id k) (hg : x ≠ .go) (c : CodeTo P φ h w s0 x fr todo (y :: k) cs t' h') : CodeTo P φ h w s0 x fr todo k cs t' h' := by
  obtain ⟨φ', w', fr', a1, a2, a3, a4, a5⟩ := c
  refine ⟨φ', w', fr', a1, a2, a3, a4, ?_⟩
  cases x with
  | go => exact absurd rfl hg
  | exit id => obtain ⟨k1, h1, h2⟩ := a5; exact ⟨k1, h1.trans (hx id), h2⟩
  | ret => exact a5
theorem steps_tail {m m1 m2 : Machine} (h : step P m = .next m1) (hs : Steps P m m2) (hne : m ≠ m2) : Steps P m1 m2 := by
  obtain ⟨n, hn⟩ := hs
  cases n with
  | zero => simp only [runN] at hn; cases hn; exact absurd rfl hne
  | succ n => simp only [runN, h] at hn; exact ⟨n, hn⟩

def SoundDraw (P : Program) (E : Env) (ih : Ih) : Prop :=
  ∀ (ops : Array Oper) pl t h t' h', plan ops.toList = some pl → drawF E ih ops.toList pl h t h = .ok (t', h') → ∀ φ w s0 fr k cs, Inv P φ h w → Fr φ h w s0 t fr → ∀ q,
    OpsTo P φ h w s0 fr (.inRegion ops (Region.schedule (P.follows .mixedOrders) ops q) :: k) k cs t' h'
def SoundRange (P : Program) (ih : Ih) : Prop :=
  ∀ f ps as bd t h x t' h', rangeF ih f ps as bd t h = .ok (x, t', h') → ∀ φ w s0 fr k cs, Inv P φ h w → Fr φ h w s0 t fr → fr.roundOf = none →
    ∀ psA : Array Nat, psA.toList = ps → CodeTo P φ h w s0 x fr (.code (.rangeFunc f psA as bd) :: k) k cs t' h'

theorem andThen_ok {r : R (X × Tm × H)} {kk : Tm → H → R (X × Tm × H)} {x : X} (e : andThen r kk = .ok (x, t', h')) :
    ∃ x1 t1 h1, r = .ok (x1, t1, h1) ∧ ((x1 = .go ∧ kk t1 h1 = .ok (x, t', h')) ∨ (x1 ≠ .go ∧ x = x1 ∧ t' = t1 ∧ h' = h1)) := by
  obtain ⟨⟨x1, t1, h1⟩, e1, e2⟩ := bind_ok e
  refine ⟨x1, t1, h1, e1, ?_⟩
  cases x1 with
  | go => exact .inl ⟨rfl, e2⟩
  | exit id => cases e2; exact .inr ⟨by simp, rfl, rfl, rfl⟩
  | ret => cases e2; exact .inr ⟨by simp, rfl, rfl, rfl⟩
theorem Fr.dr {s0 : Nat} {fr : Frame} (F : Fr φ h w s0 t fr) : Fr φ h (dr w) s0 t fr := ⟨F.rel, F.fine, F.marks, F.base⟩

theorem execF_sound (_hT : TysOk P E) (_hV : Views P E) (S : Sound P ih) (SD : SoundDraw P E ih) (SR : SoundRange P ih) : SoundExec P (execF E ih) := by
  intro c t h x t' h' e φ w s0 fr k cs I F hr
  show CodeTo P φ h w s0 x fr (.code c :: k) k cs t' h'
  have here : ∀ {x todo}, Ends P x fr fr todo k cs w w → CodeTo P φ h w s0 x fr todo k cs t h := fun a => ⟨φ, w, fr, Ext.refl _ _ _ I.mem.llt, I, sameFr.refl _, F, a⟩
  cases c with
  | skip => cases e; exact here (Steps.one to_skip)
  | label l => cases e; exact here (Steps.one to_label)
  | exit id => cases e; exact here ⟨k, rfl, Steps.refl _ _⟩
  | ret => cases e; exact here ⟨k, Steps.refl _ _⟩
  | region id ops draw =>
    obtain ⟨⟨t1, h1⟩, e1, e2⟩ := bind_ok e
    have fin : ∀ {φ w}, Inv P φ h w → OpsTo P φ h w s0 fr (.inRegion ops (List.range ops.size) :: k) k cs t1 h1 ∨ True → True := fun _ _ => trivial
    have flush : ∀ {φ : Phi} {w : World} {todo : List Item}, OpsTo P φ h w s0 fr todo k cs t1 h1 → CodeTo P φ h w s0 x fr todo k cs t' h' := by
      rintro φ w todo ⟨φ1, w1, fr1, a1, a2, a3, a4, a5⟩
      obtain ⟨t2, b1, b2, b3, b4⟩ := flushT_ok (t := t1) (fun t => (.ok (.go, t, h1) : R (X × Tm × H))) a4.rel.small a4.rel.wf
      have e3 : flushT t1 (fun t => (.ok (.go, t, h1) : R (X × Tm × H))) = .ok (x, t', h') := e2
      rw [b1] at e3
      cases e3
      exact ⟨φ1, w1, fr1, a1, a2, a3, a4.sub b2 b3 b4, a5⟩
    cases draw with
    | false =>
      have e1 : ih.ops ops.toList ops.toList t h = .ok (t1, h1) := e1
      refine CodeTo.head to_region (flush ?_)
      have := S.ops ops 0 t h t1 h1 (by simpa using e1) φ w s0 fr k cs I F
      rwa [Nat.sub_zero, ← List.range_eq_range'] at this
    | true =>
      obtain ⟨pl, hp, e3⟩ := opt_ok (x := plan ops.toList) e1
      have := flush (SD ops pl t h t1 h1 hp e3 φ (dr w) s0 fr k cs I.dr F.dr (w.tape w.drawn (.order fr.fn id)))
      exact CodeTo.trans I (Ext.dr I) (sameFr.refl _) (.one to_draw) this
  | seq a b =>
    obtain ⟨x1, t1, h1, e1, e2⟩ := andThen_ok e
    have hr' : fr.roundOf = none ∨ (noRange a = true ∧ noRange b = true) := hr.imp id and_ok
    have ca := S.exec a t h x1 t1 h1 e1 φ w s0 fr (.code b :: k) cs I F (hr'.imp id (·.1))
    refine CodeTo.head to_seq ?_
    rcases e2 with ⟨rfl, e2⟩ | ⟨hg, rfl, rfl, rfl⟩
    · obtain ⟨φ1, w1, fr1, a1, a2, a3, a4, a5⟩ := ca
      exact CodeTo.trans I a1 a3 a5 (S.exec b t1 h1 x t' h' e2 φ1 w1 s0 fr1 k cs a2 a4 (by rw [a3.2.2.1]; exact hr'.imp id (·.2)))
    · exact CodeTo.pass (fun _ => rfl) hg ca
  | cond c a b =>
    obtain ⟨u, h1, h2, e1⟩ := ev_ok e F.rel F.fine
    obtain ⟨q, rfl, e2⟩ := asB_ok (v := u) e1
    have hr' : fr.roundOf = none ∨ (noRange a = true ∧ noRange b = true) := hr.imp id and_ok
    refine CodeTo.head (to_cond (b := q) (by rw [h1]; simp [conc])) ?_
    cases q with
    | true => exact S.exec a t h x t' h' e2 φ w s0 fr k cs I F (hr'.imp id (·.1))
    | false => exact S.exec b t h x t' h' e2 φ w s0 fr k cs I F (hr'.imp id (·.2))
  | block id b =>
    obtain ⟨⟨x1, t1, h1⟩, e1, e2⟩ := bind_ok e
    have cb := S.exec b t h x1 t1 h1 e1 φ w s0 fr (.inBlock id :: k) cs I F hr
    refine CodeTo.head to_block ?_
    cases x1 with
    | go =>
      cases e2
      obtain ⟨φ1, w1, fr1, a1, a2, a3, a4, a5⟩ := cb
      exact ⟨φ1, w1, fr1, a1, a2, a3, a4, Steps.trans a5 (.one to_inBlock)⟩
    | exit id' =>
      have e2 : (Bool.casesOn (Nat.beq id' id) (.ok (.exit id', t1, h1)) (.ok (.go, t1, h1)) : R (X × Tm × H)) = .ok (x, t', h') := e2
      cases hb : Nat.beq id' id with
      | true =>
        rw [hb] at e2
        cases e2
        have := beq_eq hb
        subst this
        obtain ⟨φ1, w1, fr1, a1, a2, a3, a4, k1, a5, a6⟩ := cb
        exact ⟨φ1, w1, fr1, a1, a2, a3, a4, Steps.trans a6 (.one (to_exit (by rw [a5]; simp [exitTo])))⟩
      | false =>
        rw [hb] at e2
        cases e2
        obtain ⟨φ1, w1, fr1, a1, a2, a3, a4, k1, a5, a6⟩ := cb
        refine ⟨φ1, w1, fr1, a1, a2, a3, a4, k1, a5.trans ?_, a6⟩
        have : (id == id') = false := by
          rw [Bool.eq_false_iff]; intro h
          rw [beq_iff_eq] at h
          subst h
          rw [Nat.beq_refl] at hb; cases hb
        simp [exitTo, this]
    | ret => cases e2; exact cb
  | loop b =>
    obtain ⟨x1, t1, h1, e1, e2⟩ := andThen_ok e
    have cb := S.exec b t h x1 t1 h1 e1 φ w s0 fr (.inLoop b :: k) cs I F hr
    refine CodeTo.head to_loop ?_
    rcases e2 with ⟨rfl, e2⟩ | ⟨hg, rfl, rfl, rfl⟩
    · obtain ⟨φ1, w1, fr1, a1, a2, a3, a4, a5⟩ := cb
      obtain ⟨φ2, w2, fr2, b1, b2, b3, b4, b5⟩ := S.exec (.loop b) t1 h1 x t' h' e2 φ1 w1 s0 fr1 k cs a2 a4 (by rw [a3.2.2.1]; exact hr)
      refine CodeTo.trans I a1 a3 (Steps.trans a5 (.one to_inLoop)) ⟨φ2, w2, fr2, b1, b2, b3, b4, ?_⟩
      have ne : ∀ {todo : List Item} {w w' : World} {a b : Frame} {l : List Item}, l ≠ todo → lone (onTodo a l) cs w ≠ lone (onTodo b todo) cs w' := by
        intro todo w w' a b l hne he
        have := congrArg (fun m => (m.gs[0]?).map (·.frame.todo)) he
        simp [lone, onTodo] at this
        exact hne this
      cases x with
      | go => exact steps_tail to_loop b5 (ne (by intro hk; have := congrArg List.length hk; simp at this))
      | exit id => obtain ⟨k1, c1, c2⟩ := b5; exact ⟨k1, c1, steps_tail to_loop c2 (ne (by simp))⟩
      | ret => obtain ⟨k1, c2⟩ := b5; exact ⟨k1, steps_tail to_loop c2 (ne (by simp))⟩
    · exact CodeTo.pass (fun _ => rfl) hg cb
  | scope b =>
    have cb := S.exec b t h x t' h' e φ w s0 fr (.inScope b :: k) cs I F hr
    refine CodeTo.head to_scope ?_
    cases x with
    | go =>
      obtain ⟨φ1, w1, fr1, a1, a2, a3, a4, a5⟩ := cb
      exact ⟨φ1, w1, fr1, a1, a2, a3, a4, Steps.trans a5 (.one to_inScope)⟩
    | exit id => exact CodeTo.pass (fun _ => rfl) (by simp) cb
    | ret => exact CodeTo.pass (fun _ => rfl) (by simp) cb
  | rangeFunc f ps as bd =>
    have hr' : fr.roundOf = none := by
      rcases hr with h | h
      · exact h
      · cases h
    exact SR f ps.toList as bd t h x t' h' e φ w s0 fr k cs I F hr' ps rfl
  | _ => cases e
end Go.Vint
namespace Go.Vint
variable {P : Program} {E : Env} {φ : Phi} {D : Nat → Prop} {w : World} {h h' : H} {t t' : Tm} {ct : Array Value} {v : V} {ih : Ih}

/-! ## Blocks that no value tells of -/
theorem Inv.outside {h0 : H} {w0 : World} {φ0 : Phi} (X : Ext φ0 h0 w0 φ h w) (I : Inv P φ h w) {r : Nat} {c : Obj} (hr : ∀ b, Live h b → φ.blk b ≠ r) (hb : w0.heap.size ≤ r) :
    Ext φ0 h0 w0 φ h (upd w r c) ∧ Inv P φ h (upd w r c) := by
  refine ⟨⟨X.next, X.same, by rw [upd_size]; exact X.size, fun k hk hne => ?_, X.fresh, X.wr, X.os, X.tape, X.output, X.lv, X.born⟩, ⟨⟨fun b o ho => ?_, I.mem.lt, I.mem.nx, I.mem.inj⟩, I.fine⟩⟩
  · rw [upd_get, if_neg (by omega)]; exact X.keep k hk hne
  · by_cases hd : o = .dead
    · subst hd; trivial
    · rw [upd_get, if_neg (fun e => hr b ⟨o, ho, hd⟩ e.symm)]
      exact I.mem.rel b o ho
theorem Inv.pushRaw (I : Inv P φ h w) (c : Obj) : Ext φ h w φ h (push w c) ∧ Inv P φ h (push w c) := by
  refine ⟨⟨Nat.le_refl _, Phi.Same.refl _ _, by rw [push_size]; omega, fun k hk _ => by rw [push_get, if_neg (by omega)], fun b hb hw => absurd (I.mem.wlt b hw) (by omega), fun _ _ hw => hw, rfl, rfl, rfl, fun _ _ hw => hw, fun b hb hw => absurd (I.mem.llt b hw) (by omega)⟩,
    ⟨⟨fun b o ho => ?_, I.mem.lt, I.mem.nx, I.mem.inj⟩, I.fine⟩⟩
  by_cases hd : o = .dead
  · subst hd; trivial
  · rw [push_get, if_neg (by have := I.mem.inHeap ho hd; omega)]
    exact I.mem.rel b o ho

/-! ## Leaving a frame -/
theorem leave_end {fr : Frame} {cs : List Frame} (hr : fr.roundOf = none) : step P (lone (onTodo fr []) cs w) = .next (lone { onTodo fr [] with mode := .returning } cs w) :=
  step_lone_go (by simp [stepG, stepG.exec, onTodo, hr])
theorem leave_ret {fr : Frame} {k : List Item} {cs : List Frame} (hr : fr.roundOf = none) : step P (lone (onTodo fr (.code .ret :: k)) cs w) = .next (lone { onTodo fr (.code .ret :: k) with mode := .returning } cs w) :=
  step_lone_go (by simp [stepG, stepG.exec, onTodo, hr])
theorem runs_take {r : Nat} (h : w.heap[r]? = some (.deferred (some []))) : Runs P (Instr.takeDeferred r) w [] (upd w r (.deferred none)) := by
  refine runs_bind (runs_getObj h (by simp)) ?_
  refine runs_bind (runs_setObj h (by simp)) ?_
  exact runs_pure _ _
theorem pop_marks {h0 : H} {w0 : World} {φ0 : Phi} {cs : List Frame} (rs : List Nat) : ∀ (w : World) (fr : Frame), Ext φ0 h0 w0 φ h w → Inv P φ h w → fr.mode = .returning → fr.defers = rs.map markOf → rs.Nodup →
    (∀ r ∈ rs, w0.heap.size ≤ r ∧ w.heap[r]? = some (.deferred (some []))) →
    ∃ w', Ext φ0 h0 w0 φ h w' ∧ Inv P φ h w' ∧ Steps P (lone fr cs w) (lone { fr with defers := [] } cs w') := by
  induction rs with
  | nil =>
    intro w fr X I hm hd _ _
    refine ⟨w, X, I, ?_⟩
    have : { fr with defers := [] } = fr := by cases fr; simp at hd; simp [hd]
    rw [this]; exact Steps.refl _ _
  | cons r rs ih =>
    intro w fr X I hm hd hn hr
    obtain ⟨r1, r2⟩ := hr r (List.mem_cons_self ..)
    obtain ⟨X1, I1⟩ := Inv.outside X I (c := .deferred none) (fun b hb => I.mem.noMark r2 hb) r1
    obtain ⟨hn1, hn2⟩ := List.nodup_cons.1 hn
    obtain ⟨w', a1, a2, a3⟩ := ih (upd w r (.deferred none)) { fr with defers := rs.map markOf } X1 I1 hm rfl hn2 (fun q hq => by
      obtain ⟨q1, q2⟩ := hr q (List.mem_cons_of_mem _ hq)
      refine ⟨q1, ?_⟩
      rw [upd_get, if_neg (by rintro rfl; exact hn1 hq)]; exact q2)
    refine ⟨w', a1, a2, Steps.head (step_lone_go ?_) a3⟩
    have hrun := runs_take (P := P) r2
    have hrun : (Instr.takeDeferred r).run P w = .ok [] (upd w r (.deferred none)) := hrun
    obtain ⟨fn, tmps, todo, defers, mode, kind, ro⟩ := fr
    simp only at hm hd
    subst hm hd
    simp [stepG, unwind, markOf, hrun]

inductive All2 {α β : Type} (R : α → β → Prop) : List α → List β → Prop
  | nil : All2 R [] []
  | cons {a : α} {b : β} {l : List α} {m : List β} : R a b → All2 R l m → All2 R (a :: l) (b :: m)
theorem runs_mapM {α β : Type} {f : α → Sem β} : ∀ {l : List α} {bs : List β}, All2 (fun a b => Runs P (f a) w b w) l bs → Runs P (l.mapM f) w bs w
  | [], _, .nil => by rw [List.mapM_nil]; exact runs_pure _ w
  | a :: l, _, .cons h hs => by
    rw [List.mapM_cons]
    exact runs_bind h (runs_bind (runs_mapM hs) (runs_pure _ w))

theorem resK_ok {β : Type} (hT : TysOk P E) (m : Mem P φ h w) (hH : fineH φ D h) (ht : TRel φ t ct) (hf : fineT φ D t) (l : List ResultVar) : ∀ {k : List V → R β} {r : β}, resK E t h l k = .ok r →
    ∃ vs, k vs = .ok r ∧ fineL φ D vs ∧ All2 (fun x b => Runs P ((fun | .tmp t => pure (ct.getD t undef) | .cell a t => do loadVar t (← asAddr (ct.getD a undef)) : ResultVar → Sem Value) x) w b w) l (concL φ vs) := by
  induction l with
  | nil => intro k r e; exact ⟨[], e, by simp [fineL], by simp only [concL]; exact .nil⟩
  | cons x l ih =>
    intro k r e
    cases x with
    | tmp i =>
      have e : ev t (.tmp i) (fun v => resK E t h l fun vs => k (v :: vs)) = .ok r := e
      obtain ⟨u, h1, h2, e1⟩ := ev_ok e ht hf
      obtain ⟨vs, e2, h3, h4⟩ := ih e1
      refine ⟨u :: vs, e2, by simp only [fineL]; exact ⟨h2, h3⟩, ?_⟩
      simp only [concL]
      refine .cons ?_ h4
      rw [← h1]; exact runs_pure _ w
    | cell a tt =>
      have e : ev t (.tmp a) (fun a => loadK E h tt a fun v => resK E t h l fun vs => k (v :: vs)) = .ok r := e
      obtain ⟨u, h1, h2, e1⟩ := ev_ok e ht hf
      obtain ⟨x, e2, h3, h4, b, o, rfl⟩ := loadK_ok hT m hH e1
      obtain ⟨vs, e3, h5, h6⟩ := ih e2
      refine ⟨x :: vs, e3, by simp only [fineL]; exact ⟨h3, h5⟩, ?_⟩
      simp only [concL]
      refine .cons ?_ h6
      have h1 : ct.getD a undef = conc φ (.ptr b o) := h1
      show Runs P (do loadVar tt (← asAddr (ct.getD a undef))) w _ w
      rw [h1]
      simp only [conc] at h4 ⊢
      exact h4
theorem runs_results (hT : TysOk P E) (m : Mem P φ h w) (hH : fineH φ D h) (ht : TRel φ t ct) (hf : fineT φ D t) {fn : Func} {rs : List ResultVar} (hrs : fn.results.toList = rs) {u : V × H}
    (e : resK E t h rs (fun vs => okV (pack1 vs) h) = .ok u) : u.2 = h ∧ fineV φ D u.1 ∧ Runs P (results fn ct) w (conc φ u.1) w := by
  obtain ⟨vs, e1, h1, h2⟩ := resK_ok hT m hH ht hf rs e
  obtain ⟨u, hu⟩ := u
  obtain ⟨rfl, rfl⟩ := okV_ok e1
  refine ⟨rfl, ?_, ?_⟩
  · show fineV φ D (pack1 vs)
    match vs, h1 with
    | [], h1 => simp [pack1, fineV, fineL]
    | [x], h1 => simp only [fineL] at h1; exact h1.1
    | x :: y :: l, h1 => simpa [pack1, fineV] using h1
  · unfold results
    rw [Array.mapM_eq_mapM_toList, hrs]
    refine runs_bind (runs_map (runs_mapM h2)) ?_
    refine runs_eq ?_ w
    match vs with
    | [] => simp [concL, pack1, conc]
    | [x] => simp [concL, pack1]
    | x :: y :: l => simp [concL, pack1, conc]
end Go.Vint
namespace Go.Vint
variable {P : Program} {E : Env} {φ : Phi} {D : Nat → Prop} {w : World} {h h' : H} {t t' : Tm} {ct : Array Value} {v : V} {ih : Ih}

/-- what the runner knows of functions' bodies -/
def BodyOk (P : Program) (E : Env) : Prop := ∀ f c rs n lv, E.body f = some (c, rs, n, lv) →
  ∃ fn, P.funcs[f]? = some fn ∧ (fn.name == "runtime.NumGoroutine") = false ∧ fn.body = some c ∧ fn.results.toList = rs ∧ fn.ntmps = n
/-- hooks tell the truth -/
def HookOk (P : Program) (E : Env) : Prop := ∀ f g as h v h', E.hook f = some g → g as h = some (v, h') → ∀ φ w, Inv P φ h w → fineL φ (· < h.next) as →
  ∀ m fr cs (s : Sem Next), s.run P w = (callFunc f (concL φ as).toArray).run P w → Asks P m fr cs w s → Gives P φ h w m fr cs v h'

theorem setT_ok {β : Type} {d : Nat} {k : Tm → R β} {r : β} (e : setT t d v k = .ok r) : d < t.n ∧ t.env = [] ∧ k ⟨t.n, t.lv, t.t.set 5 d v, []⟩ = .ok r := by
  obtain ⟨n, lv, tr, env⟩ := t
  cases env with
  | cons _ _ => cases e
  | nil =>
    obtain ⟨h1, h2⟩ := chk_ok (b := Nat.ble (Nat.succ d) n) e
    rw [T.setK_eq] at h2
    exact ⟨succ_ble h1, rfl, h2⟩
theorem at_flat {n lv i : Nat} {tr : T V} {u : V} (h : (⟨n, lv, tr, []⟩ : Tm).at i = some u) : u = (tr.get 5 i).getD .undef := by
  have h : (if bit lv i = true then some ((tr.get 5 i).getD .undef) else none) = some u := h
  by_cases hb : bit lv i = true
  · rw [if_pos hb] at h; exact (Option.some.inj h).symm
  · rw [if_neg hb] at h; cases h
theorem args0_ok {β : Type} {n lv : Nat} (hn : n ≤ 1024) (l : List V) : ∀ (i : Nat) (tr : T V) {k : Tm → R β} {r : β}, args0 l i ⟨n, lv, tr, []⟩ k = .ok r →
    ∃ tr', k ⟨n, lv, tr', []⟩ = .ok r ∧ (l = [] ∨ i + l.length ≤ n) ∧ ∀ j, tr'.get 5 j = if i ≤ j ∧ j < i + l.length then l[j - i]? else tr.get 5 j := by
  induction l with
  | nil => intro i tr k r e; exact ⟨tr, e, .inl rfl, fun j => by rw [if_neg (by simp)]⟩
  | cons v l ih =>
    intro i tr k r e
    have e : setT ⟨n, lv, tr, []⟩ i v (fun t => args0 l (Nat.succ i) t k) = .ok r := e
    obtain ⟨h1, _, e1⟩ := setT_ok e
    have h1 : i < n := h1
    obtain ⟨tr', e2, h2, h3⟩ := ih (i + 1) _ e1
    refine ⟨tr', e2, .inr ?_, fun j => ?_⟩
    · rcases h2 with rfl | h2
      · simp; omega
      · simp; omega
    · rw [h3, T.get_set 5 _ _ _ _ (show i < 4 ^ 5 from Nat.lt_of_lt_of_le h1 hn)]
      by_cases hj : j = i
      · subst hj
        rw [if_neg (by omega), if_pos rfl, if_pos (by simp)]; simp
      · by_cases hj2 : i + 1 ≤ j ∧ j < i + 1 + l.length
        · rw [if_pos hj2, if_pos (by simp; omega), show j - i = (j - (i + 1)) + 1 from by omega, List.getElem?_cons_succ]
        · rw [if_neg hj2, if_neg hj, if_neg (by simp; omega)]

/-- the frame that a call enters -/
theorem enter_eq {f : FuncId} {fn : Func} {c : Code} {as : Array Value} (hf : P.funcs[f]? = some fn) (hb : fn.body = some c) :
    Frame.enter P f as .normal = onTodo { fn := f, tmps := as ++ Array.replicate (fn.ntmps - as.size) undef, todo := [], defers := [], mode := .run, kind := .normal } [.code c] := by
  simp [Frame.enter, onTodo, hf, hb]

theorem callBody_leaves (hT : TysOk P E) (S : Sound P ih) {f : FuncId} {fn : Func} {c : Code} {rs : List ResultVar} {n lv : Nat} (hf : P.funcs[f]? = some fn) (hb : fn.body = some c) (hrs : fn.results.toList = rs) (hn : fn.ntmps = n)
    {as : List V} (I : Inv P φ h w) (hfa : fineL φ (· < h.next) as) (e : callBody E ih (c, rs, n, lv) as h = .ok (v, h')) (cs : List Frame) :
    ∃ φ' w' frL, Ext φ h w φ' h' w' ∧ Inv P φ' h' w' ∧ fineV φ' (· < h'.next) v ∧ Steps P (lone (Frame.enter P f (concL φ as).toArray .normal) cs w) (lone frL cs w') ∧ frL.fn = f ∧ frL.leaving P w' (.returned (conc φ' v)) := by
  obtain ⟨hle, e1⟩ := chk_ok e
  have hle : n ≤ 1024 := ble_le hle
  obtain ⟨tr, e2, hlen, htr⟩ := args0_ok hle as 0 .e e1
  obtain ⟨⟨x, t1, h1⟩, e3, e4⟩ := bind_ok e2
  have hlen : as.length ≤ n := by
    rcases hlen with rfl | h
    · simp
    · omega
  rw [enter_eq hf hb, hn]
  have hget : ∀ i u, (⟨n, lv, tr, []⟩ : Tm).at i = some u → u = (as[i]?).getD .undef := by
    intro i u hu
    rw [at_flat hu, htr, T.get_e]
    by_cases hi : i < as.length
    · rw [if_pos (by omega)]; rfl
    · rw [if_neg (by omega), List.getElem?_eq_none (by omega)]
  have F : Fr φ h w w.heap.size ⟨n, lv, tr, []⟩ { fn := f, tmps := (concL φ as).toArray ++ Array.replicate (n - (concL φ as).toArray.size) undef, todo := [], defers := [], mode := .run, kind := .normal } := by
    refine ⟨⟨?_, hle, by simp, fun i u hu => ?_⟩, fun i u hu => ?_, ⟨[], rfl, by simp, by simp⟩, Nat.le_refl _⟩
    · simp [concL_toList]; omega
    · rw [hget i u hu]
      rw [Array.getD_eq_getD_getElem?]
      by_cases hi : i < as.length
      · rw [Array.getElem?_append_left (by simp [concL_toList, hi]), List.getElem?_toArray, concL_get, List.getElem?_eq_getElem hi]; rfl
      · rw [Array.getElem?_append_right (by simp [concL_toList]; omega), List.getElem?_eq_none (by omega)]
        have : ((Array.replicate (n - (concL φ as).toArray.size) undef)[i - (concL φ as).toArray.size]?).getD undef = undef := by
          rw [Array.getElem?_replicate]; split <;> rfl
        rw [this]; simp [conc, undef]
    · rw [hget i u hu]
      by_cases hi : i < as.length
      · rw [List.getElem?_eq_getElem hi]; exact (fineL_iff φ _ as).1 hfa _ (List.getElem_mem hi)
      · rw [List.getElem?_eq_none (by omega)]; simp [fineV]
  obtain ⟨φ1, w1, fr1, X, J, s1, F1, en⟩ := S.exec c _ h x t1 h1 e3 φ w w.heap.size _ [] cs I F (.inl rfl)
  -- out of the code
  have hro : fr1.roundOf = none := s1.2.2.1
  have out : ∃ todo, Steps P (lone (onTodo { fn := f, tmps := (concL φ as).toArray ++ Array.replicate (n - (concL φ as).toArray.size) undef, todo := [], defers := [], mode := .run, kind := .normal } [.code c]) cs w) (lone { onTodo fr1 todo with mode := .returning } cs w1) ∧ resK E t1 h1 rs (fun vs => okV (pack1 vs) h1) = .ok (v, h') := by
    cases x with
    | go => exact ⟨[], (Steps.trans en (.one (leave_end hro))), e4⟩
    | ret => obtain ⟨k1, en⟩ := en; exact ⟨_, (Steps.trans en (.one (leave_ret (k := k1) hro))), e4⟩
    | exit id => cases e4
  obtain ⟨todo, st, e5⟩ := out
  obtain ⟨rs', m1, m2, m3⟩ := F1.marks
  obtain ⟨w2, X2, J2, st2⟩ := pop_marks (P := P) (cs := cs) rs' w1 { onTodo fr1 todo with mode := .returning } X J rfl m1 m2 m3
  obtain ⟨r1, r2, r3⟩ := runs_results (w := w2) hT J2.mem J2.fine F1.rel F1.fine hrs e5
  have r1 : h' = h1 := r1
  subst r1
  exact ⟨φ1, w2, _, X2, J2, r2, st.trans st2, s1.1, rfl, rfl, s1.2.1, fn, by show P.funcs[fr1.fn]? = _; rw [s1.1]; exact hf, r3⟩
theorem callBody_gives (hT : TysOk P E) (S : Sound P ih) {f : FuncId} {fn : Func} {c : Code} {rs : List ResultVar} {n lv : Nat} (hf : P.funcs[f]? = some fn) (hb : fn.body = some c) (hrs : fn.results.toList = rs) (hn : fn.ntmps = n)
    {as : List V} (I : Inv P φ h w) (hfa : fineL φ (· < h.next) as) (e : callBody E ih (c, rs, n, lv) as h = .ok (v, h')) {m : Machine} {fr : Frame} {cs : List Frame}
    (hs : step P m = .next (lone (Frame.enter P f (concL φ as).toArray .normal) (fr :: cs) w)) : Gives P φ h w m fr cs v h' := by
  obtain ⟨φ', w', frL, a1, a2, a3, a4, _, a5⟩ := callBody_leaves hT S hf hb hrs hn I hfa e (fr :: cs)
  exact ⟨φ', w', a1, a2, a3, Steps.head hs (Steps.trans a4 (.one (step_leave_returned a5)))⟩

theorem callFn_gives (hT : TysOk P E) (hB : BodyOk P E) (hH : HookOk P E) (S : Sound P ih) {f : FuncId} {as : List V} (I : Inv P φ h w) (hfa : fineL φ (· < h.next) as) (e : callFn E ih f as h = .ok (v, h')) {m : Machine} {fr : Frame} {cs : List Frame}
    {s : Sem Next} (hs : s.run P w = (callFunc f (concL φ as).toArray).run P w) (a : Asks P m fr cs w s) : Gives P φ h w m fr cs v h' := by
  have body : callFn0 E ih f as h = .ok (v, h') → Gives P φ h w m fr cs v h' := by
    intro e1
    obtain ⟨⟨c, rs, n, lv⟩, hb, e2⟩ := opt_ok (x := E.body f) e1
    obtain ⟨fn, h1, h2, h3, h4, h5⟩ := hB f c rs n lv hb
    refine callBody_gives hT S h1 h3 h4 h5 I hfa e2 (a.enter f _ w ?_)
    rw [hs]
    unfold callFunc
    have : (program >>= fun p => match p.funcs[f]? with
      | none => (stuck "call: no such function" : Sem Next)
      | some fn =>
        if fn.name == "runtime.NumGoroutine" then pure .numGoroutine
        else if fn.body.isNone then do
          mark (.extern f)
          if let some e := Extern.findNext fn then return ← e (concL φ as).toArray
          match Extern.find fn with
          | some e => pure (.value (← e (concL φ as).toArray))
          | none =>
            if fn.name.endsWith ".init" && !fn.name.startsWith "(" && !fn.name.startsWith "gosem." then pure (.value (.tuple #[]))
            else unsupported (.extern fn.name)
        else pure (.enter f (concL φ as).toArray)).run P w = .ok (.enter f (concL φ as).toArray) w := by
      refine runs_bind (runs_program w) ?_
      rw [h1]
      dsimp only
      rw [h2, h3]
      exact runs_pure _ w
    exact this
  unfold callFn at e
  cases hk : E.hook f with
  | none => rw [hk] at e; exact body e
  | some g =>
    rw [hk] at e
    cases hg : g as h with
    | none => dsimp only at e; rw [hg] at e; exact body e
    | some r =>
      dsimp only at e
      rw [hg] at e
      obtain ⟨u, hu⟩ := r
      cases e
      exact hH f g as h v h' hk hg φ w I hfa m fr cs s hs a
end Go.Vint
namespace Go.Vint
variable {P : Program} {E : Env} {φ : Phi} {D : Nat → Prop} {w : World} {h h' : H} {t t' : Tm} {ct : Array Value} {v : V} {ih : Ih}

/-! ## A loop's rounds -/
theorem setP_ok {β : Type} (ps : List Nat) : ∀ {vs : List V} {t : Tm} {ct : Array Value} {k : Tm → R β} {r : β}, TRel φ t ct → fineT φ D t → fineL φ D vs → setP ps vs t k = .ok r →
    vs.length = ps.length ∧ ∃ t', k t' = .ok r ∧ TRel φ t' ((ps.zip (concL φ vs)).foldl (fun tmps x => tmps.setIfInBounds x.1 x.2) ct) ∧ fineT φ D t' := by
  induction ps with
  | nil =>
    intro vs t ct k r ht hf hv e
    cases vs with
    | nil => exact ⟨rfl, t, e, ht, hf⟩
    | cons _ _ => cases e
  | cons p ps ih =>
    intro vs t ct k r ht hf hv e
    cases vs with
    | nil => cases e
    | cons u vs =>
      have e : setT t p u (fun t => setP ps vs t k) = .ok r := e
      obtain ⟨h1, h2, e1⟩ := setT_ok e
      simp only [fineL] at hv
      obtain ⟨n, lv, tr, env⟩ := t
      simp only at h1 h2
      subst h2
      have hn : n ≤ 1024 := ht.small
      have hat : ∀ i x, (⟨n, lv, tr.set 5 p u, []⟩ : Tm).at i = some x → (i = p ∧ x = u) ∨ (i ≠ p ∧ (⟨n, lv, tr, []⟩ : Tm).at i = some x) := by
        intro i x hx
        have hx : (if bit lv i = true then some (((tr.set 5 p u).get 5 i).getD .undef) else none) = some x := hx
        rw [T.get_set 5 _ _ _ _ (show p < 4 ^ 5 from Nat.lt_of_lt_of_le h1 hn)] at hx
        by_cases hi : i = p
        · left
          rw [if_pos hi] at hx
          split at hx
          · cases hx; exact ⟨hi, rfl⟩
          · cases hx
        · right
          rw [if_neg hi] at hx
          exact ⟨hi, hx⟩
      have ht' : TRel φ ⟨n, lv, tr.set 5 p u, []⟩ (ct.setIfInBounds p (conc φ u)) := by
        refine ⟨by simpa using ht.size, hn, by simp, fun i x hx => ?_⟩
        rw [getD_set _ _ _ _ (by rw [ht.size]; exact h1)]
        rcases hat i x hx with ⟨rfl, rfl⟩ | ⟨hi, hx⟩
        · rw [if_pos rfl]
        · rw [if_neg hi]; exact ht.at' i x hx
      have hf' : fineT φ D ⟨n, lv, tr.set 5 p u, []⟩ := by
        intro i x hx
        rcases hat i x hx with ⟨rfl, rfl⟩ | ⟨hi, hx⟩
        · exact hv.1
        · exact hf i x hx
      obtain ⟨a1, t', a2, a3, a4⟩ := ih ht' hf' hv.2 e1
      exact ⟨by simp [a1], t', a2, by simpa only [concL, List.zip_cons_cons, List.foldl_cons] using a3, a4⟩

theorem runs_getLoop {l : Nat} {L : Loop} (h : w.heap[l]? = some (.loop L)) : Runs P (Instr.getLoop l) w L w := by
  refine runs_bind (runs_getObj h (by simp)) ?_
  exact runs_pure _ w
theorem begin_step {fr : Frame} {k : List Item} {cs : List Frame} {l : Nat} {L : Loop} (hr : fr.roundOf = some l) (h : w.heap[l]? = some (.loop L)) (hs : L.state = .ready) :
    step P (lone (onTodo fr (.beginRound :: k)) cs w) = .next (lone (onTodo fr k) cs (upd w l (.loop { L with state := .busy }))) := by
  have hrun : Runs P (do fr.roundOf.elim (stuck "beginRound: no round") Instr.beginRound; pure .skip : Sem Next) w .skip (upd w l (.loop { L with state := .busy })) := by
    rw [hr]
    refine runs_bind (a := ()) (w1 := upd w l (.loop { L with state := .busy })) ?_ (runs_pure _ _)
    show Runs P (Instr.beginRound l) _ _ _
    refine runs_bind (runs_getLoop h) ?_
    refine runs_bind (runs_setObj h (by simp)) ?_
    rw [hs]
    exact runs_pure _ _
  have hrun : (do fr.roundOf.elim (stuck "beginRound: no round") Instr.beginRound; pure .skip : Sem Next).run P w = _ := hrun
  refine step_lone_go ?_
  simp only [onTodo]
  simp only [stepG, stepG.exec, stepG.apply, Sem.runT_eq, if_true, hrun, GStep.bare_after]
  simp [Frame.finish]
theorem runs_endRound {l : Nat} {L : Loop} (h : w.heap[l]? = some (.loop L)) (jump : Option Code) :
    Runs P (Instr.endRound l jump) w (.bool jump.isNone) (upd w l (.loop { L with state := if jump.isNone then .ready else .done, pending := jump })) := by
  refine runs_bind (runs_getLoop h) ?_
  refine runs_bind (runs_setObj h (by simp)) ?_
  exact runs_pure _ _
theorem end_step {fr : Frame} {cs : List Frame} {c : Frame} {l : Nat} {L : Loop} (hr : fr.roundOf = some l) (hk : fr.kind = .normal) (h : w.heap[l]? = some (.loop L)) {todo : List Item} {jump : Option Code}
    (ht : (todo = [] ∧ jump = none) ∨ (∃ k, todo = .code .ret :: k ∧ jump = some .ret) ∨ ∃ id k, todo = .code (.exit id) :: k ∧ exitTo id k = none ∧ jump = some (.exit id)) :
    step P (lone (onTodo fr todo) (c :: cs) w) = .next (lone (c.finish (.bool jump.isNone)) cs (upd w l (.loop { L with state := if jump.isNone then .ready else .done, pending := jump }))) := by
  have hrun : (Instr.endRound l jump).run P w = _ := runs_endRound (P := P) h jump
  refine step_lone_go ?_
  rcases ht with ⟨rfl, rfl⟩ | ⟨k, rfl, rfl⟩ | ⟨id, k, rfl, hx, rfl⟩
  · simp [stepG, stepG.exec, onTodo, hr, hrun, doReturn, hk]
  · simp [stepG, stepG.exec, onTodo, hr, hrun, doReturn, hk]
  · simp [stepG, stepG.exec, onTodo, hr, hrun, doReturn, hk, hx]

/-- the loop's block, as it lies -/
theorem loop_at (I : Inv P φ h w) {l : Nat} {st : LoopState} {pend : Option Code} {tm : Tm} {ps : List Nat} {as bd : Code} (hl : h.get l = some (.loop st pend tm ps as bd)) :
    ∃ L : Loop, w.heap[φ.blk l]? = some (.loop L) ∧ L.state = st ∧ L.pending = pend ∧ TRel φ tm L.tmps ∧ L.params.toList = ps ∧ L.assign = as ∧ L.body = bd := I.mem.rel l _ hl
theorem put_loop (I : Inv P φ h w) {l : Nat} {st st' : LoopState} {pend pend' : Option Code} {tm : Tm} {ps : List Nat} {as bd : Code} (hl : h.get l = some (.loop st pend tm ps as bd)) {L : Loop} (h0 : w.heap[φ.blk l]? = some (.loop L)) :
    Ext φ h w φ (h.put l (.loop st' pend' tm ps as bd)) (upd w (φ.blk l) (.loop { L with state := st', pending := pend' })) ∧ Inv P φ (h.put l (.loop st' pend' tm ps as bd)) (upd w (φ.blk l) (.loop { L with state := st', pending := pend' })) := by
  obtain ⟨L', a1, a2, a3, a4, a5, a6, a7⟩ := loop_at I hl
  rw [h0] at a1
  cases a1
  have hfl : fineO φ (· < h.next) (.loop st' pend' tm ps as bd) := by have := I.fine l _ hl; exact this
  exact I.put ⟨_, hl, rfl⟩ hfl ⟨_, rfl, rfl, rfl, a4, a5, a6, a7⟩

theorem yield_gives (S : Sound P ih) {l : Nat} {args : List V} (I : Inv P φ h w) (hfa : fineL φ (· < h.next) args) (e : callYield ih l args h = .ok (v, h')) {m : Machine} {fr : Frame} {cs : List Frame} {s : Sem Next}
    (hs : s.run P w = (Instr.yield (φ.blk l) (concL φ args).toArray).run P w) (a : Asks P m fr cs w s) : Gives P φ h w m fr cs v h' := by
  obtain ⟨o, hl, e1⟩ := opt_ok (x := h.get l) e
  cases o with
  | loop st pend tm ps as bd =>
    cases st with
    | ready =>
      obtain ⟨L, a1, a2, a3, a4, a5, a6, a7⟩ := loop_at I hl
      obtain ⟨f1, f2, f3⟩ := I.fine l _ hl
      have e1 : setP ps args tm (fun t => R.bind (ih.exec as t h) fun r => Prod.casesOn r fun x r => Prod.casesOn r fun t h => match x with
        | .go => round2 ih l bd t h
        | _ => .no 123) = .ok (v, h') := e1
      obtain ⟨hlen, t1, e2, ht1, hf1⟩ := setP_ok ps a4 f1 hfa e1
      obtain ⟨⟨x1, t2, h2⟩, e3, e4⟩ := bind_ok e2
      have hy : Runs P (Instr.yield (φ.blk l) (concL φ args).toArray) w (.round (φ.blk l) L.fn ((ps.zip (concL φ args)).foldl (fun tmps x => tmps.setIfInBounds x.1 x.2) L.tmps) as bd) w := by
        refine runs_bind (runs_getLoop a1) ?_
        have hsz : (concL φ args).toArray.size = L.params.size := by
          rw [← Array.length_toList (xs := L.params), a5, List.size_toArray, concL_toList]; exact hlen
        rw [if_neg (by simpa using hsz)]
        refine runs_eq ?_ w
        rw [a6, a7]
        congr 1
        rw [← Array.foldl_toList, Array.toList_zip, a5]
      have start := a.round _ _ _ _ _ w (hs.trans hy)
      have hfr : ∀ tm' : Array Value, Frame.round (φ.blk l) L.fn tm' as bd .normal = onTodo { fn := L.fn, tmps := tm', todo := [], defers := [], mode := .run, kind := .normal, roundOf := some (φ.blk l) } [.code as, .beginRound, .code bd] := fun _ => rfl
      rw [hfr] at start
      have F : Fr φ h w w.heap.size t1 { fn := L.fn, tmps := (ps.zip (concL φ args)).foldl (fun tmps x => tmps.setIfInBounds x.1 x.2) L.tmps, todo := [], defers := [], mode := .run, kind := .normal, roundOf := some (φ.blk l) } :=
        ⟨ht1, hf1, ⟨[], rfl, by simp, by simp⟩, Nat.le_refl _⟩
      obtain ⟨φ2, w2, fr2, X2, J2, s2, F2, en2⟩ := S.exec as t1 h x1 t2 h2 e3 φ w w.heap.size _ [.beginRound, .code bd] (fr :: cs) I F (.inr f2)
      cases x1 with
      | exit id => cases e4
      | ret => cases e4
      | go =>
        have hlt : l < h.next := I.mem.lt l _ hl
        have hb2 : φ2.blk l = φ.blk l := (X2.same l hlt).1
        have hro2 : fr2.roundOf = some (φ.blk l) := s2.2.2.1
        obtain ⟨o2, hl2, e5⟩ := opt_ok (x := h2.get l) e4
        cases o2 with
        | loop st2 pend2 tm2 ps2 as2 bd2 =>
          cases st2 with
          | ready =>
            have e5 : (h2.set l (.loop .busy pend2 tm2 ps2 as2 bd2) fun h => R.bind (ih.exec bd t2 h) fun r => Prod.casesOn r fun x r => Prod.casesOn r fun _ h => round3 l x h) = .ok (v, h') := e5
            rw [H.set_eq] at e5
            obtain ⟨L2, c1, c2, c3, _⟩ := loop_at J2 hl2
            obtain ⟨X3, J3⟩ := put_loop (st' := .busy) (pend' := pend2) J2 hl2 c1
            have hL2 : ({ L2 with state := LoopState.busy, pending := pend2 } : Loop) = { L2 with state := .busy } := by rw [← c3]
            rw [hL2] at X3 J3
            have st3 := begin_step (P := P) (w := w2) (k := [.code bd]) (cs := fr :: cs) hro2 (by rw [← hb2]; exact c1) c2
            rw [← hb2] at st3
            obtain ⟨⟨x4, t4, h4⟩, e6, e7⟩ := bind_ok e5
            have F3 : Fr φ2 (h2.put l (.loop .busy pend2 tm2 ps2 as2 bd2)) (upd w2 (φ2.blk l) (.loop { L2 with state := .busy })) w.heap.size t2 fr2 :=
              ⟨F2.rel, F2.fine, F2.marks.ext J2.mem X3, by rw [upd_size]; exact F2.base⟩
            obtain ⟨φ4, w4, fr4, X4, J4, s4, F4, en4⟩ := S.exec bd t2 _ x4 t4 h4 e6 φ2 _ w.heap.size _ [] (fr :: cs) J3 F3 (.inr f3)
            have hlt2 : l < (h2.put l (.loop .busy pend2 tm2 ps2 as2 bd2)).next := Nat.lt_of_lt_of_le hlt X2.next
            have hb4 : φ4.blk l = φ.blk l := ((X4.same l hlt2).1).trans hb2
            have hro4 : fr4.roundOf = some (φ4.blk l) := by rw [s4.2.2.1, hro2, hb4]
            have hk4 : fr4.kind = .normal := s4.2.1.trans s2.2.1
            obtain ⟨o4, hl4, e8⟩ := opt_ok (x := h4.get l) e7
            cases o4 with
            | loop st4 pend4 tm4 ps4 as4 bd4 =>
              obtain ⟨L4, d1, d2, d3, _⟩ := loop_at J4 hl4
              have X24 := (X2.trans I.mem.llt X3).trans I.mem.llt X4
              have fin : ∀ (jump : Option Code) (todo : List Item), ((todo = [] ∧ jump = none) ∨ (∃ k, todo = .code .ret :: k ∧ jump = some .ret) ∨ ∃ id k, todo = .code (.exit id) :: k ∧ exitTo id k = none ∧ jump = some (.exit id)) →
                  Steps P (lone (onTodo fr2 [.code bd]) (fr :: cs) (upd w2 (φ2.blk l) (.loop { L2 with state := .busy }))) (lone (onTodo fr4 todo) (fr :: cs) w4) →
                  v = .bool jump.isNone → h' = h4.put l (.loop (if jump.isNone then .ready else .done) jump tm4 ps4 as4 bd4) → Gives P φ h w m fr cs v h' := by
                rintro jump todo ht hst rfl rfl
                obtain ⟨X5, J5⟩ := put_loop (st' := if jump.isNone then .ready else .done) (pend' := jump) J4 hl4 d1
                refine ⟨φ4, _, X24.trans I.mem.llt X5, J5, by simp [fineV], ?_⟩
                have := end_step (P := P) (cs := cs) (c := fr) hro4 hk4 d1 ht
                simp only [conc]
                exact Steps.head start (Steps.trans en2 (Steps.head st3 (Steps.trans hst (.one this))))
              cases x4 with
              | go =>
                have e8 : (h4.set l (.loop .ready none tm4 ps4 as4 bd4) fun h => okV (.bool true) h) = .ok (v, h') := e8
                rw [H.set_eq] at e8
                obtain ⟨rfl, rfl⟩ := okV_ok e8
                exact fin none [] (.inl ⟨rfl, rfl⟩) en4 rfl rfl
              | ret =>
                have e8 : (h4.set l (.loop .done (some (jumpOf .ret)) tm4 ps4 as4 bd4) fun h => okV (.bool false) h) = .ok (v, h') := e8
                rw [H.set_eq] at e8
                obtain ⟨rfl, rfl⟩ := okV_ok e8
                obtain ⟨k1, en4⟩ := en4
                exact fin (some .ret) _ (.inr (.inl ⟨k1, rfl, rfl⟩)) en4 rfl rfl
              | exit id =>
                have e8 : (h4.set l (.loop .done (some (jumpOf (.exit id))) tm4 ps4 as4 bd4) fun h => okV (.bool false) h) = .ok (v, h') := e8
                rw [H.set_eq] at e8
                obtain ⟨rfl, rfl⟩ := okV_ok e8
                obtain ⟨k1, hk1, en4⟩ := en4
                exact fin (some (.exit id)) _ (.inr (.inr ⟨id, k1, rfl, by rw [hk1]; rfl, rfl⟩)) en4 rfl rfl
            | _ => cases e8
          | _ => cases e5
        | _ => cases e5
    | _ => cases e1
  | _ => cases e1

theorem callV_sound (hT : TysOk P E) (hB : BodyOk P E) (hH : HookOk P E) (S : Sound P ih) : SoundCall P (callV E ih) := by
  intro f args h v h' e φ w I hff hfa m fr cs s hs a
  cases f with
  | fn f first cap =>
    simp only [fineV] at hff
    have e : (appK args cap fun as => appK first as fun as => callFn E ih f as h) = .ok (v, h') := e
    rw [appK_eq, appK_eq] at e
    refine callFn_gives hT hB hH S I ?_ e (s := s) ?_ a
    · rw [fineL_iff]
      intro u hu
      rcases List.mem_append.1 hu with hu | hu
      · exact (fineL_iff _ _ _).1 hff.1 u hu
      · rcases List.mem_append.1 hu with hu | hu
        · exact (fineL_iff _ _ _).1 hfa u hu
        · exact (fineL_iff _ _ _).1 hff.2 u hu
    · rw [hs]
      simp only [conc]
      show (callFunc f ((concL φ first).toArray ++ (concL φ args).toArray ++ (concL φ cap).toArray)).run P w = _
      congr 2
      simp [concL_eq]
  | yield l =>
    have e : callYield ih l args h = .ok (v, h') := e
    refine yield_gives S I hfa e (s := s) ?_ a
    rw [hs]
    simp only [conc]
    show (Instr.yield (φ.blk l) (#[] ++ (concL φ args).toArray)).run P w = _
    simp
  | _ => cases e
end Go.Vint
namespace Go.Vint
variable {P : Program} {E : Env} {φ : Phi} {D : Nat → Prop} {w : World} {h h' : H} {t t' : Tm} {ct : Array Value} {v : V} {ih : Ih}

/-- a range over a function begins: what the machine does -/
theorem range_asks {fr : Frame} {k : List Item} {cs : List Frame} {f : Operand} {ps : Array Nat} {as bd : Code} (hr : fr.roundOf = none) :
    Asks P (lone (onTodo fr (.code (.rangeFunc f ps as bd) :: k)) cs w)
      (onTodo { fr with defers := markOf w.heap.size :: fr.defers } (.inRangeFunc (w.heap.size + 1) :: k)) cs
      (push (push w (.deferred (some []))) (.loop { state := .ready, pending := none, fn := fr.fn, tmps := fr.tmps, params := ps, assign := as, body := bd, defers := w.heap.size }))
      (do let d ← Deferred.ofValue (rho fr.tmps f) #[.func (.yield (w.heap.size + 1)) #[] #[]]; invoke d.target d.args) := by
  have hen : (Instr.enterLoop fr.fn fr.tmps ps as bd none).run P w = .ok (w.heap.size + 1, [markOf w.heap.size])
      (push (push w (.deferred (some []))) (.loop { state := .ready, pending := none, fn := fr.fn, tmps := fr.tmps, params := ps, assign := as, body := bd, defers := w.heap.size })) := by
    show Runs P _ _ _ _
    refine runs_bind (runs_newObj _ w) ?_
    refine runs_bind (runs_pure _ _) ?_
    refine runs_bind (runs_newObj _ _) ?_
    rw [push_size]
    exact runs_pure _ _
  have he : ∀ todo, Frame.eval (onTodo { fr with defers := markOf w.heap.size :: fr.defers } todo) = rho fr.tmps := fun todo => funext fun x => rho_eval _ x
  have hres : ∀ todo, resolve (Frame.eval (onTodo { fr with defers := markOf w.heap.size :: fr.defers } todo)) { callee := .value f, args := #[.const (.func (.yield (w.heap.size + 1)) #[] #[])], argTypes := #[] } 0 =
      Deferred.ofValue (rho fr.tmps f) #[.func (.yield (w.heap.size + 1)) #[] #[]] := by
    intro todo
    rw [he]
    simp [resolve, rho]
  have hg : (stepG P true { frame := onTodo fr (.code (.rangeFunc f ps as bd) :: k), callers := cs, status := .running, dying := none } w).bare =
      (stepG.apply P true (onTodo { fr with defers := markOf w.heap.size :: fr.defers } (.inRangeFunc (w.heap.size + 1) :: k)) cs none
        (do let d ← Deferred.ofValue (rho fr.tmps f) #[.func (.yield (w.heap.size + 1)) #[] #[]]; invoke d.target d.args)
        (push (push w (.deferred (some []))) (.loop { state := .ready, pending := none, fn := fr.fn, tmps := fr.tmps, params := ps, assign := as, body := bd, defers := w.heap.size }))).bare := by
    rw [← hres (.inRangeFunc (w.heap.size + 1) :: k)]
    simp [stepG, stepG.exec, onTodo, hr, hen]
  refine ⟨?_, ?_, ?_, ?_⟩
  · intro v w1 hr
    exact step_lone_go (by rw [hg]; simp [stepG.apply, hr])
  · intro w1 hr
    exact step_lone_go (by rw [hg]; simp [stepG.apply, hr])
  · intro f as w1 hr
    exact step_lone_go (by rw [hg]; simp [stepG.apply, hr, onTodo])
  · intro l f ts a b w1 hr
    exact step_lone_go (by rw [hg]; simp [stepG.apply, hr, onTodo])
theorem endRange_step {fr : Frame} {k : List Item} {cs : List Frame} {l : Nat} {L : Loop} (h : w.heap[l]? = some (.loop L)) (hs : L.state ≠ .busy) :
    step P (lone (onTodo fr (.endRangeFunc l :: k)) cs w) = .next (lone (onTodo fr ((L.pending.map Item.code).toList ++ k)) cs (upd w l (.loop { L with state := .exhausted }))) := by
  have hrun : (Instr.endLoop l).run P w = .ok L.pending (upd w l (.loop { L with state := .exhausted })) := by
    show Runs P _ _ _ _
    refine runs_bind (runs_getLoop h) ?_
    have : (L.state == LoopState.busy) = false := by cases hst : L.state <;> first | rfl | exact absurd hst hs
    rw [this]
    refine runs_bind (runs_setObj h (by simp)) ?_
    exact runs_pure _ _
  exact step_lone_go (by simp [stepG, stepG.exec, onTodo, hrun])

theorem rangeF_sound (S : Sound P ih) : SoundRange P ih := by
  intro f ps as bd t h x t' h' e φ w s0 fr k cs I F hr psA hps
  obtain ⟨hc, e1⟩ := chk_ok e
  obtain ⟨n1, n2⟩ := and_ok hc
  obtain ⟨hn, e2⟩ := H.new_ok e1
  obtain ⟨fv, h1, h2, e3⟩ := ev_ok (D := (· < h.next)) e2 F.rel F.fine
  obtain ⟨⟨u, h3⟩, e4, e5⟩ := bind_ok e3
  let L0 : Loop := { state := .ready, pending := none, fn := fr.fn, tmps := fr.tmps, params := psA, assign := as, body := bd, defers := w.heap.size }
  obtain ⟨X0, I0⟩ := Inv.pushRaw I (.deferred (some []))
  have hsz : (push w (.deferred (some []))).heap.size = w.heap.size + 1 := push_size _ _
  have hs := Phi.up_same φ h.next (w.heap.size + 1) 0 0
  obtain ⟨X1, I1⟩ := I0.new (o := .loop .ready none t ps as bd) (c := .loop L0) (K := 0) hn ⟨F.fine, n1, n2⟩ (by
    rw [hsz]
    exact ⟨L0, rfl, rfl, rfl, TRel_same hs F.fine F.rel, hps, rfl, rfl⟩)
  rw [hsz] at X1 I1
  have hblk : (φ.up h.next (w.heap.size + 1) 0 0).blk h.next = w.heap.size + 1 := by simp [Phi.up]
  have X01 := X0.trans I.mem.llt X1
  have hlt : h.next < (h.add (.loop .ready none t ps as bd)).next := by show h.next < h.next + 1; omega
  have hfv : fineV (φ.up h.next (w.heap.size + 1) 0 0) (· < (h.add (.loop .ready none t ps as bd)).next) fv := fine_same hs (fun b hb => by show b < h.next + 1; omega) fv h2
  have hcv : conc (φ.up h.next (w.heap.size + 1) 0 0) fv = conc φ fv := conc_same hs fv h2
  obtain ⟨φ2, w2, X2, J2, _, st2⟩ := S.call fv [.yield h.next] _ u h3 e4 _ _ I1 hfv (by simp only [fineL, fineV]; exact ⟨hlt, trivial⟩) _ _ cs _ (by
    rw [hcv, ← h1]
    simp only [concL, conc, hblk]) (range_asks (P := P) (w := w) (fr := fr) (k := k) (cs := cs) (f := f) (ps := psA) (as := as) (bd := bd) hr)
  -- the frame behind
  have hm : Marks (push (push w (.deferred (some []))) (.loop L0)) s0 (markOf w.heap.size :: fr.defers) := by
    obtain ⟨rs, m1, m2, m3⟩ := F.marks
    refine ⟨w.heap.size :: rs, by rw [m1]; rfl, List.nodup_cons.2 ⟨fun hm => ?_, m2⟩, fun r hr' => ?_⟩
    · have := lt_of_get (m3 _ hm).2; omega
    · rcases List.mem_cons.1 hr' with rfl | hr'
      · refine ⟨F.base, ?_⟩
        rw [push_get, if_neg (by rw [hsz]; omega), push_get, if_pos rfl]
      · obtain ⟨q1, q2⟩ := m3 r hr'
        have := lt_of_get q2
        refine ⟨q1, ?_⟩
        rw [push_get, if_neg (by rw [hsz]; omega), push_get, if_neg (by omega)]; exact q2
  have F2 : Fr φ2 h3 w2 s0 t { fr with defers := markOf w.heap.size :: fr.defers } := by
    have F1 : TRel (φ.up h.next (w.heap.size + 1) 0 0) t fr.tmps := TRel_same hs F.fine F.rel
    have f1 : fineT (φ.up h.next (w.heap.size + 1) 0 0) (· < (h.add (.loop .ready none t ps as bd)).next) t := fineT_same hs (fun b hb => by show b < h.next + 1; omega) F.fine
    exact ⟨TRel_same X2.same f1 F1, fineT_same X2.same (fun b hb => Nat.lt_of_lt_of_le hb X2.next) f1, hm.ext I1.mem X2, Nat.le_trans F.base (Nat.le_trans X01.size X2.size)⟩
  have hb2 : φ2.blk h.next = w.heap.size + 1 := ((X2.same h.next hlt).1).trans hblk
  have hsame : sameFr fr { fr with defers := markOf w.heap.size :: fr.defers } := ⟨rfl, rfl, rfl, fun hh => absurd hr hh⟩
  have hfin : (onTodo { fr with defers := markOf w.heap.size :: fr.defers } (.inRangeFunc (w.heap.size + 1) :: k)).finish (conc φ2 u) = onTodo { fr with defers := markOf w.heap.size :: fr.defers } (.endRangeFunc (w.heap.size + 1) :: k) := by
    simp [Frame.finish, onTodo]
  rw [hfin] at st2
  obtain ⟨o, hl, e6⟩ := opt_ok (x := h3.get h.next) e5
  cases o with
  | loop st pend tm ps' as' bd' =>
    obtain ⟨L, a1, a2, a3, _⟩ := loop_at J2 hl
    have go : st ≠ .busy → (h3.set h.next (.loop .exhausted pend tm ps' as' bd') fun h => jumpX t h pend) = .ok (x, t', h') → CodeTo P φ h w s0 x fr (.code (.rangeFunc f psA as bd) :: k) k cs t' h' := by
      intro hst e7
      rw [H.set_eq] at e7
      obtain ⟨X3, J3⟩ := put_loop (st' := .exhausted) (pend' := pend) J2 hl a1
      have hL : ({ L with state := LoopState.exhausted, pending := pend } : Loop) = { L with state := .exhausted } := by rw [← a3]
      rw [hL] at X3 J3
      rw [hb2] at a1 X3 J3
      have st3 := endRange_step (P := P) (w := w2) (fr := { fr with defers := markOf w.heap.size :: fr.defers }) (k := k) (cs := cs) a1 (by rw [a2]; exact hst)
      have X3' := (X01.trans I.mem.llt X2).trans I.mem.llt X3
      have F3 : Fr φ2 (h3.put h.next (.loop .exhausted pend tm ps' as' bd')) (upd w2 (w.heap.size + 1) (.loop { L with state := .exhausted })) s0 t { fr with defers := markOf w.heap.size :: fr.defers } :=
        ⟨F2.rel, F2.fine, F2.marks.ext J2.mem X3, by rw [upd_size]; exact F2.base⟩
      have hk3 : (L.pending.map Item.code).toList ++ k = (pend.map Item.code).toList ++ k := by rw [a3]
      rw [hk3] at st3
      have stt := Steps.trans st2 (.one st3)
      cases pend with
      | none => cases e7; exact ⟨φ2, _, _, X3', J3, hsame, F3, stt⟩
      | some c =>
        cases c <;> first
          | (cases e7; done)
          | (cases e7; exact ⟨φ2, _, _, X3', J3, hsame, F3, ⟨k, stt⟩⟩)
          | (cases e7; exact ⟨φ2, _, _, X3', J3, hsame, F3, ⟨k, rfl, stt⟩⟩)
    cases st with
    | busy => cases e6
    | ready => exact go (by simp) e6
    | done => exact go (by simp) e6
    | exhausted => exact go (by simp) e6
  | _ => cases e6
end Go.Vint
namespace Go.Vint
variable {P : Program} {E : Env} {φ : Phi} {D : Nat → Prop} {w : World} {h h' : H} {t t' : Tm} {ct : Array Value} {v : V} {ih : Ih}

/-- what must be known of a program for the runner to tell the truth -/
structure EnvOk (P : Program) (E : Env) : Prop where
  tys : TysOk P E
  views : Views P E
  bodies : BodyOk P E
  hooks : HookOk P E
theorem run_sound (K : EnvOk P E) (SD : ∀ ih, Sound P ih → SoundDraw P E ih) : ∀ n, Sound P (run E n) := by
  intro n
  induction n with
  | zero =>
    refine ⟨fun f args h v h' e => ?_, fun c t h x t' h' e => ?_, fun all i t h t' h' e => ?_⟩
    · cases e
    · cases e
    · cases e
  | succ n ih =>
    exact ⟨callV_sound K.tys K.bodies K.hooks ih, execF_sound K.tys K.views ih (SD _ ih) (rangeF_sound ih), opsF_sound K.tys K.views ih⟩

/-- the heap without blocks, in any world -/
theorem Inv.empty (φ : Phi) (w : World) : Inv P φ ⟨.e, 0⟩ w := by
  have hg : ∀ b, (⟨.e, 0⟩ : H).get b = none := fun b => T.get_e 9 b
  refine ⟨⟨fun b o hb => ?_, fun b o hb => ?_, by show (0 : Nat) ≤ 262144; omega, fun b b' hb _ _ => ?_⟩, fun b o hb => ?_⟩
  · rw [hg] at hb; cases hb
  · rw [hg] at hb; cases hb
  · obtain ⟨o, ho, _⟩ := hb; rw [hg] at ho; cases ho
  · rw [hg] at hb; cases hb
/-- a run from the empty heap, of a body: what the machine comes to -/
theorem run_leaves (K : EnvOk P E) (SD : ∀ ih, Sound P ih → SoundDraw P E ih) {n : Nat} {f : FuncId} {c : Code × List ResultVar × Nat × Nat} (hb : E.body f = some c) {as : List V} (I : Inv P φ h w) (hfa : fineL φ (· < h.next) as)
    (e : callBody E (run E n) c as h = .ok (v, h')) :
    Calls P f (concL φ as).toArray w fun end' w' => ∃ φ', end' = .returned (conc φ' v) ∧ Ext φ h w φ' h' w' ∧ Inv P φ' h' w' ∧ fineV φ' (· < h'.next) v := by
  intro cs
  obtain ⟨c, rs, m, lv⟩ := c
  obtain ⟨fn, h1, h2, h3, h4, h5⟩ := K.bodies f c rs m lv hb
  obtain ⟨φ', w', frL, a1, a2, a3, a4, a5, a6⟩ := callBody_leaves K.tys (run_sound K SD n) h1 h3 h4 h5 I hfa e cs
  exact ⟨.returned (conc φ' v), w', frL, ⟨φ', rfl, a1, a2, a3⟩, a4, a5, a6⟩
end Go.Vint
namespace Go.Vint
variable {P : Program} {E : Env} {φ : Phi} {D : Nat → Prop} {w : World} {h h' : H} {t t' : Tm} {ct : Array Value} {v : V} {ih : Ih}

/-! ## What an operation sees of the temporaries -/
theorem evT_at {β : Type} (t : Tm) (i : Nat) (k : V → R β) : evT t i k = match t.at i with | some u => k u | none => .no 9 := by
  obtain ⟨n, lv, tr, env⟩ := t
  unfold Tm.at
  show envK i (Bool.casesOn (motive := fun _ => R β) (bit lv i) (.no 9) (Option.casesOn (motive := fun _ => R β) (tr.get 5 i) (k .undef) k)) k env = _
  dsimp only
  induction env with
  | nil =>
    show (Bool.casesOn (motive := fun _ => R β) (bit lv i) (.no 9) (Option.casesOn (motive := fun _ => R β) (tr.get 5 i) (k .undef) k)) = _
    cases bit lv i with
    | false => rfl
    | true => cases tr.get 5 i <;> rfl
  | cons x env ih =>
    obtain ⟨j, u⟩ := x
    show (Bool.casesOn (motive := fun _ => R β) (Nat.beq j i) (envK i _ k env) (k u)) = _
    rw [List.find?_cons]
    dsimp only
    cases hb : Nat.beq j i with
    | true => rfl
    | false => exact ih
/-- the same as to the temporaries of U -/
def Alike (U : List Nat) (t t' : Tm) : Prop := ∀ i ∈ U, t'.at i = t.at i
theorem evT_alike {β : Type} {U : List Nat} (a : Alike U t t') {i : Nat} (hi : i ∈ U) (k : V → R β) : evT t' i k = evT t i k := by
  rw [evT_at, evT_at, a i hi]
theorem mem_tmpsOf {l : List Operand} {i : Nat} : i ∈ tmpsOf l ↔ .tmp i ∈ l := by
  induction l with
  | nil => simp [tmpsOf]
  | cons x l ih =>
    cases x with
    | tmp j =>
      show i ∈ j :: tmpsOf l ↔ _
      rw [List.mem_cons, ih, List.mem_cons]; simp
    | _ => show i ∈ tmpsOf l ↔ _; rw [ih, List.mem_cons]; simp
theorem ev_alike {β : Type} {l : List Operand} (a : Alike (tmpsOf l) t t') {x : Operand} (hx : x ∈ l) (k : V → R β) : ev t' x k = ev t x k := by
  cases x with
  | tmp i => exact evT_alike a (mem_tmpsOf.2 hx) k
  | _ => rfl
theorem evs_alike {β : Type} {l : List Operand} (a : Alike (tmpsOf l) t t') : ∀ {l' : List Operand}, (∀ x ∈ l', x ∈ l) → ∀ (k : List V → R β), evs t' l' k = evs t l' k := by
  intro l'
  induction l' with
  | nil => intro _ k; rfl
  | cons x l' ih =>
    intro hl k
    show ev t' x (fun v => evs t' l' fun vs => k (v :: vs)) = ev t x (fun v => evs t l' fun vs => k (v :: vs))
    rw [ev_alike a (hl x (List.mem_cons_self ..))]
    congr 1
    funext v
    exact ih (fun y hy => hl y (List.mem_cons_of_mem _ hy)) _
theorem evp_alike {β : Type} {l : List Operand} (a : Alike (tmpsOf l) t t') : ∀ {l' : List (Nat × Operand)}, (∀ x ∈ l', x.2 ∈ l) → ∀ (k : List (Nat × V) → R β), evp t' l' k = evp t l' k := by
  intro l'
  induction l' with
  | nil => intro _ k; rfl
  | cons x l' ih =>
    intro hl k
    show ev t' x.2 (fun v => evp t' l' fun vs => k ((x.1, v) :: vs)) = ev t x.2 (fun v => evp t l' fun vs => k ((x.1, v) :: vs))
    rw [ev_alike a (hl x (List.mem_cons_self ..))]
    congr 1
    funext v
    exact ih (fun y hy => hl y (List.mem_cons_of_mem _ hy)) _
theorem evo_alike {β : Type} {l : List Operand} (a : Alike (tmpsOf l) t t') {x : Option Operand} (hx : ∀ y, x = some y → y ∈ l) (k : Option V → R β) : evo t' x k = evo t x k := by
  cases x with
  | none => rfl
  | some y => exact ev_alike a (hx y rfl) _
theorem op1_alike {o : Op} (a : Alike (tmpsOf o.operands.toList) t t') : op1 E t' h o = op1 E t h o := by
  have e1 : ∀ {β : Type} {x : Operand} (k : V → R β), x ∈ o.operands.toList → ev t' x k = ev t x k := fun k hx => ev_alike a hx k
  have e2 : ∀ {β : Type} {l : List Operand} (k : List V → R β), (∀ x ∈ l, x ∈ o.operands.toList) → evs t' l k = evs t l k := fun k hx => evs_alike a hx k
  have e3 : ∀ {β : Type} {l : List (Nat × Operand)} (k : List (Nat × V) → R β), (∀ x ∈ l, x.2 ∈ o.operands.toList) → evp t' l k = evp t l k := fun k hx => evp_alike a hx k
  have e4 : ∀ {β : Type} {x : Option Operand} (k : Option V → R β), (∀ y, x = some y → y ∈ o.operands.toList) → evo t' x k = evo t x k := fun k hx => evo_alike a hx k
  clear a
  cases o <;> first | rfl | skip
  case move x => exact e1 _ (by simp [Op.operands])
  case assign x => exact e1 _ (by simp [Op.operands])
  case pick c x y =>
    show cPick t' h c x y = cPick t h c x y
    unfold cPick
    rw [e1 _ (by simp [Op.operands])]
    congr 1; funext c; congr 1; funext b
    exact e1 _ (by cases b <;> simp [Op.operands])
  case box x y => exact e1 _ (by simp [Op.operands])
  case build x ps => exact e3 _ (fun x hx => by simp only [Op.operands, List.mem_map]; exact ⟨x, hx, rfl⟩)
  case buildSlice x n ps => exact e3 _ (fun x hx => by simp only [Op.operands, List.mem_map]; exact ⟨x, hx, rfl⟩)
  case load x y => exact e1 _ (by simp [Op.operands])
  case store x y z =>
    show cStore E t' h x y z = cStore E t h x y z
    unfold cStore
    rw [e1 _ (by simp [Op.operands])]
    congr 1; funext c
    exact e1 _ (by simp [Op.operands])
  case nilCheck x => exact e1 _ (by simp [Op.operands])
  case binOp op tt x y yt =>
    show cBin E t' h op tt x y yt = cBin E t h op tt x y yt
    unfold cBin
    rw [e1 _ (by simp [Op.operands])]
    congr 1; funext c
    exact e1 _ (by simp [Op.operands])
  case unOp op tt x => exact e1 _ (by simp [Op.operands])
  case convert x y z => exact e1 _ (by simp [Op.operands])
  case makeFunc f x y =>
    cases f with
    | func f =>
      show evs t' x.toList (fun a => evs t' y.toList fun b => okV (.fn f a b) h) = evs t x.toList (fun a => evs t y.toList fun b => okV (.fn f a b) h)
      rw [e2 _ (fun z hz => by simp only [Op.operands, Array.toList_append, List.mem_append]; exact .inl hz)]
      congr 1; funext c
      exact e2 _ (fun z hz => by simp only [Op.operands, Array.toList_append, List.mem_append]; exact .inr hz)
    | _ => rfl
  case makeSlice tt l c =>
    show cMakeSlice E t' h tt l c = cMakeSlice E t h tt l c
    unfold cMakeSlice
    rw [e1 _ (by simp [Op.operands])]
    congr 1; funext c
    exact e1 _ (by simp [Op.operands])
  case slice tt x lo hi mx =>
    show cSlice E t' h tt x lo hi mx = cSlice E t h tt x lo hi mx
    unfold cSlice
    rw [e1 _ (by simp [Op.operands])]
    congr 1; funext c
    rw [e4 _ (by rintro y rfl; simp [Op.operands])]
    congr 1; funext c
    rw [e4 _ (by rintro y rfl; simp [Op.operands])]
    congr 1; funext c
    exact e4 _ (by rintro y rfl; simp [Op.operands])
  case fieldAddr x y z => exact e1 _ (by simp [Op.operands])
  case field x y z => exact e1 _ (by simp [Op.operands])
  case indexAddr tt x i =>
    show cIndexAddr E t' h tt x i = cIndexAddr E t h tt x i
    unfold cIndexAddr
    rw [e1 _ (by simp [Op.operands])]
    congr 1; funext c
    exact e1 _ (by simp [Op.operands])
  case index tt x i =>
    show cIndex E t' h tt x i = cIndex E t h tt x i
    unfold cIndex
    rw [e1 _ (by simp [Op.operands])]
    congr 1; funext c
    exact e1 _ (by simp [Op.operands])
  case lookup tt x k ok =>
    show cLookup E t' h tt x k ok = cLookup E t h tt x k ok
    unfold cLookup
    rw [e1 _ (by simp [Op.operands])]
    congr 1; funext c
    exact e1 _ (by simp [Op.operands])
  case mapUpdate tt m k x =>
    show cUpdate E t' h tt m k x = cUpdate E t h tt m k x
    unfold cUpdate
    rw [e1 _ (by simp [Op.operands])]
    congr 1; funext c
    rw [e1 _ (by simp [Op.operands])]
    congr 1; funext c
    exact e1 _ (by simp [Op.operands])
  case range x y => exact e1 _ (by simp [Op.operands])
  case next x y => exact e1 _ (by simp [Op.operands])
  case extract x y => exact e1 _ (by simp [Op.operands])
  case call c =>
    obtain ⟨f, as, ts⟩ := c
    cases f with
    | builtin b => exact e2 _ (fun z hz => by simp [Op.operands, Call.operands]; first | exact hz | (right; exact Array.mem_def.2 hz) | exact Array.mem_def.2 hz)
    | _ => rfl
theorem oper_alike {o : Op} (a : Alike (tmpsOf o.operands.toList) t t') : oper E ih t' h o = oper E ih t h o := by
  by_cases hc : ∃ f as ts, o = .call ⟨.value f, as, ts⟩
  · obtain ⟨f, as, ts, rfl⟩ := hc
    show ev t' f (fun f => evs t' as.toList fun vs => ih.call f vs h) = ev t f (fun f => evs t as.toList fun vs => ih.call f vs h)
    have hm : ∀ z, z = f ∨ z ∈ as.toList → z ∈ (Op.call ⟨.value f, as, ts⟩).operands.toList := by
      intro z hz; simp [Op.operands, Call.operands]; rcases hz with h | h
      · exact .inl h
      · exact .inr (Array.mem_def.2 h)
    rw [ev_alike a (hm f (.inl rfl))]
    congr 1; funext c
    exact evs_alike a (fun z hz => hm z (.inr hz)) _
  · by_cases hi : ∃ f m as ts, o = .call ⟨.invoke f m, as, ts⟩
    · obtain ⟨f, m, as, ts, rfl⟩ := hi; rfl
    · have : ∀ t, oper E ih t h o = op1 E t h o := by
        intro t
        cases o <;> first | rfl | skip
        case call c =>
          obtain ⟨f, as, ts⟩ := c
          cases f with
          | value f => exact absurd ⟨f, as, ts, rfl⟩ hc
          | invoke f m => exact absurd ⟨f, m, as, ts, rfl⟩ hi
          | builtin b => rfl
      rw [this, this, op1_alike a]

/-- the temporaries of U alone -/
def bitsOf (lv : Nat) : List Nat → Nat
  | [] => 0
  | i :: U => if bit lv i = true then Nat.lor (bitsOf lv U) (Nat.pow 2 i) else bitsOf lv U
def Tm.only (t : Tm) (U : List Nat) : Tm := ⟨t.n, bitsOf t.lv U, t.t, t.env.filter fun x => decide (x.1 ∈ U)⟩
theorem bit_test (m i : Nat) : bit m i = m.testBit i := by
  rw [Nat.testBit_eq_decide_div_mod_eq]
  show Nat.beq (m / 2 ^ i % 2) 1 = _
  exact beq_dec _ _
theorem lor_bit (a b j : Nat) : bit (Nat.lor a b) j = (bit a j || bit b j) := by
  rw [bit_test, bit_test, bit_test]; exact Nat.testBit_or a b j
theorem pow_bit (i j : Nat) : bit (Nat.pow 2 i) j = decide (i = j) := by
  rw [bit_test]; exact Nat.testBit_two_pow
theorem bitsOf_bit (lv : Nat) (U : List Nat) (i : Nat) : bit (bitsOf lv U) i = true ↔ i ∈ U ∧ bit lv i = true := by
  induction U with
  | nil => simp only [bitsOf, bit_test]; simp
  | cons j U ih =>
    unfold bitsOf
    by_cases hj : bit lv j = true
    · rw [if_pos hj, lor_bit, pow_bit, Bool.or_eq_true, ih, decide_eq_true_eq, List.mem_cons]
      constructor
      · rintro (⟨h1, h2⟩ | rfl)
        · exact ⟨.inr h1, h2⟩
        · exact ⟨.inl rfl, hj⟩
      · rintro ⟨rfl | h1, h2⟩
        · exact .inr rfl
        · exact .inl ⟨h1, h2⟩
    · rw [if_neg hj, ih, List.mem_cons]
      constructor
      · rintro ⟨h1, h2⟩; exact ⟨.inr h1, h2⟩
      · rintro ⟨rfl | h1, h2⟩
        · exact absurd h2 hj
        · exact ⟨h1, h2⟩
theorem only_at (t : Tm) (U : List Nat) (i : Nat) : (t.only U).at i = if i ∈ U then t.at i else none := by
  obtain ⟨n, lv, tr, env⟩ := t
  show ((((env.filter fun x => decide (x.1 ∈ U)).find? fun x => Nat.beq x.1 i)).map (·.2) <|> if bit (bitsOf lv U) i = true then some ((tr.get 5 i).getD .undef) else none) =
    if i ∈ U then ((env.find? fun x => Nat.beq x.1 i).map (·.2) <|> if bit lv i = true then some ((tr.get 5 i).getD .undef) else none) else none
  have hf : (env.filter fun x => decide (x.1 ∈ U)).find? (fun x => Nat.beq x.1 i) = if i ∈ U then env.find? (fun x => Nat.beq x.1 i) else none := by
    induction env with
    | nil => simp
    | cons x env ih =>
      rw [List.filter_cons, List.find?_cons]
      cases hb : Nat.beq x.1 i with
      | true =>
        have hx := beq_eq hb
        by_cases hm : i ∈ U
        · rw [if_pos hm, if_pos (by rw [hx]; simpa using hm), List.find?_cons, hb]
        · rw [if_neg hm, if_neg (by rw [hx]; simpa using hm), ih, if_neg hm]
      | false =>
        by_cases hm : x.1 ∈ U
        · rw [if_pos (by simpa using hm), List.find?_cons, hb, ih]
        · rw [if_neg (by simpa using hm), ih]
  rw [hf]
  by_cases hm : i ∈ U
  · rw [if_pos hm, if_pos hm]
    by_cases hb : bit lv i = true
    · rw [if_pos hb, if_pos ((bitsOf_bit lv U i).2 ⟨hm, hb⟩)]
    · rw [if_neg hb, if_neg (fun h => hb ((bitsOf_bit lv U i).1 h).2)]
  · rw [if_neg hm, if_neg hm, if_neg (fun h => hm ((bitsOf_bit lv U i).1 h).1)]
    rfl
theorem only_alike (t : Tm) (U : List Nat) : Alike U t (t.only U) := fun i hi => by rw [only_at, if_pos hi]
theorem Alike.sub {U U' : List Nat} (a : Alike U t t') (h : ∀ i ∈ U', i ∈ U) : Alike U' t t' := fun i hi => a i (h i hi)
theorem only_wf (hw : ∀ x ∈ t.env, x.1 < t.n) (U : List Nat) : ∀ x ∈ (t.only U).env, x.1 < (t.only U).n := fun x hx => hw x (List.mem_filter.1 hx).1

/-! ## Operations that look at the temporaries alone -/
theorem op1_pu0 (hT : TysOk P E) (ht : TRel φ t ct) (hf : fineT φ D t) (o : Oper) (hk : kindOp o.op = 0) (hn : h'.next = h.next) (e : op1 E t h o.op = .ok (v, h')) :
    PuN P φ D (execOp (rho ct) o) w h v h' := by
  unfold execOp
  cases ho : o.op <;> rw [ho] at e hk <;> first | (exfalso; revert hk; show ¬ (3 = 0); decide) | (exfalso; revert hk; show ¬ (2 = 0); decide) | (exfalso; revert hk; show ¬ (1 = 0); decide) | dsimp only
  case move x =>
    obtain ⟨u, h1, h2, e1⟩ := ev_ok e ht hf
    obtain ⟨rfl, rfl⟩ := okV_ok e1
    exact ⟨rfl, by rw [h1]; exact runs_pure _ _, h2⟩
  case assign x =>
    obtain ⟨u, h1, h2, e1⟩ := ev_ok e ht hf
    obtain ⟨rfl, rfl⟩ := okV_ok e1
    exact ⟨rfl, by rw [h1]; exact runs_pure _ _, h2⟩
  case pick c a b =>
    obtain ⟨u, h1, h2, e1⟩ := ev_ok e ht hf
    obtain ⟨q, rfl, e2⟩ := asB_ok (v := u) e1
    obtain ⟨x, h3, h4, e3⟩ := ev_ok e2 ht hf
    obtain ⟨rfl, rfl⟩ := okV_ok e3
    refine ⟨rfl, ?_, h4⟩
    rw [h1]
    simp only [conc]
    cases q with
    | true => rw [← h3]; exact runs_pure _ _
    | false => rw [← h3]; exact runs_pure _ _
  case build tt ps =>
    obtain ⟨us, h1, h2, e1⟩ := evp_ok ht hf _ e
    refine (opBuild_pu (φ := φ) (D := D) hT ?_ h2 e1).n
    simpa using h1
  case nilCheck x =>
    obtain ⟨u, h1, h2, e1⟩ := ev_ok e ht hf
    obtain ⟨rfl, rfl, n1, n2, n3⟩ := opNil_pu (φ := φ) h2 e1
    refine ⟨rfl, ?_, h2⟩
    rw [h1]
    have hc : (∀ f a c, conc φ v ≠ .func (.method f) a c) := by
      intro f a c
      cases v <;> simp [conc]
    cases hcv : conc φ v with
    | pointer a => cases a with
      | none => exact absurd hcv n1
      | some a => exact runs_pure _ _
    | nilIface => exact absurd hcv n2
    | nilFunc => exact absurd hcv n3
    | func f a c => cases f with
      | method s => exact absurd hcv (hc _ _ _)
      | _ => exact runs_pure _ _
    | _ => exact runs_pure _ _
  case binOp op tt x y yt =>
    obtain ⟨a, h1, h2, e1⟩ := ev_ok e ht hf
    obtain ⟨b, h3, h4, e2⟩ := ev_ok e1 ht hf
    obtain ⟨p, g⟩ := bin_pu (P := P) (φ := φ) (D := D) (w := w) (a := x) (b := y) hT e2
    refine Pu.n ⟨p.1, ?_, p.3⟩
    rw [h1, h3]
    exact runs_bind g p.2
  case unOp op tt x =>
    obtain ⟨a, h1, h2, e1⟩ := ev_ok e ht hf
    have := (un_pu (P := P) (φ := φ) (D := D) (w := w) e1).n
    rw [h1]; exact this
  case makeFunc f a c =>
    cases f with
    | func f =>
      obtain ⟨us, h1, h2, e1⟩ := evs_ok ht hf _ e
      obtain ⟨zs, h3, h4, e2⟩ := evs_ok ht hf _ e1
      obtain ⟨rfl, rfl⟩ := okV_ok e2
      refine ⟨rfl, ?_, by simp only [fineV]; exact ⟨h2, h4⟩⟩
      rw [arr_map h1, arr_map h3]
      simp only [conc]
      exact runs_pure _ _
    | _ => cases e
  case slice tt x lo hi mx =>
    obtain ⟨a, h1, h2, e1⟩ := ev_ok e ht hf
    obtain ⟨l, h3, h4, e2⟩ := evo_ok e1 ht hf
    obtain ⟨q, h5, h6, e3⟩ := evo_ok e2 ht hf
    obtain ⟨z, h7, h8, e4⟩ := evo_ok e3 ht hf
    obtain ⟨hc, e5⟩ := chk_ok e4
    have hx : okMx q z := by
      intro hz
      cases z with
      | none => exact absurd rfl hz
      | some z => cases q with
        | none => cases hc
        | some q => simp
    have := (opSlice_pu (P := P) (φ := φ) (w := w) hT h2 hn hx e5).n
    rw [h1, h3, h5, h7]
    exact this
  case fieldAddr s x f =>
    obtain ⟨a, h1, h2, e1⟩ := ev_ok e ht hf
    have := (opFieldAddr_pu (P := P) (φ := φ) (D := D) (w := w) hT h2 e1).n
    rw [h1]; exact this
  case field s x f =>
    obtain ⟨a, h1, h2, e1⟩ := ev_ok e ht hf
    have := (opField_pu (P := P) (φ := φ) (D := D) (w := w) hT h2 e1).n
    rw [h1]; exact this
  case indexAddr tt x i =>
    obtain ⟨a, h1, h2, e1⟩ := ev_ok e ht hf
    obtain ⟨b, h3, h4, e2⟩ := ev_ok e1 ht hf
    obtain ⟨d, n, rfl, e3⟩ := asN_ok (v := b) e2
    have := (opIndexAddr_pu (P := P) (φ := φ) (D := D) (w := w) (d := d) hT h2 e3).n
    rw [h1, h3]
    simp only [conc]; exact this
  case index tt x i =>
    obtain ⟨a, h1, h2, e1⟩ := ev_ok e ht hf
    obtain ⟨b, h3, h4, e2⟩ := ev_ok e1 ht hf
    obtain ⟨d, n, rfl, e3⟩ := asN_ok (v := b) e2
    have := (opIndex_pu (P := P) (φ := φ) (D := D) (w := w) (d := d) hT h2 e3).n
    rw [h1, h3]
    simp only [conc]; exact this
  case extract x i =>
    obtain ⟨a, h1, h2, e1⟩ := ev_ok e ht hf
    have := (opExtract_pu (P := P) (φ := φ) (D := D) (w := w) h2 e1).n
    rw [h1]; exact this
  case call c =>
    obtain ⟨f, as, ts⟩ := c
    cases f with
    | value f => cases e
    | invoke a b => cases e
    | builtin b =>
      obtain ⟨us, h1, h2, e1⟩ := evs_ok ht hf _ e
      obtain ⟨tt, ts', hts, e2⟩ := cons_ok e1
      have ht0 : ts[0]? = some tt := by
        rw [← Array.getElem?_toList, hts]; rfl
      have hargs := arr_map h1
      have start : ∀ {n : Next}, Runs P (builtin b ts o.type (as.map fun | .const _ => true | _ => false) (as.map (rho ct))) w n w → Runs P (do let d ← resolve (rho ct) ⟨.builtin b, as, ts⟩ o.type; invoke d.target d.args) w n w := fun hr => runs_bind (runs_pure _ w) hr
      cases b <;> first | (exfalso; revert hk; show ¬ (3 = 0); decide) | (exfalso; revert hk; show ¬ (1 = 0); decide) | skip
      case cap =>
        obtain ⟨x, us', rfl, e3⟩ := cons_ok e2
        obtain ⟨p1, p2, p3⟩ := (opCap_pu (P := P) (φ := φ) (D := D) (w := w) (vs := as.map (rho ct)) (ty0 := o.type) hT ht0 (by rw [hargs]; simp [concL]) e3).n
        exact ⟨p1, start p2, p3⟩
      case min =>
        obtain ⟨p1, p2, p3⟩ := (opMin_pu (P := P) (φ := φ) (D := D) (w := w) (ts := ts) (t := o.type) e2).n
        exact ⟨p1, start (by rw [hargs]; exact p2), p3⟩
      case max =>
        obtain ⟨p1, p2, p3⟩ := (opMax_pu (P := P) (φ := φ) (D := D) (w := w) (ts := ts) (t := o.type) e2).n
        exact ⟨p1, start (by rw [hargs]; exact p2), p3⟩
end Go.Vint
namespace Go.Vint
variable {P : Program} {E : Env} {φ : Phi} {D : Nat → Prop} {w : World} {h h' : H} {t t' : Tm} {ct : Array Value} {v : V} {ih : Ih}

/-! ## Operations that make a block -/
theorem op2_new (hT : TysOk P E) (ht : TRel φ t ct) (hf : fineT φ D t) (o : Oper) (hk : kindOp o.op = 2) (e : op1 E t h o.op = .ok (v, h')) :
    ∃ cs el, h.next < 262144 ∧ h' = h.add (.cells cs el false 0 0) ∧ fineL φ D cs ∧ (v = .ptr h.next 0 ∨ ∃ n, v = .sl h.next 0 n n) ∧
      ∀ φ' : Phi, φ'.blk h.next = w.heap.size → φ'.off h.next = 0 → Runs P (execOp (rho ct) o) w (.value (conc φ' v)) (push w (.cells (concL φ cs).toArray el)) := by
  unfold execOp
  cases ho : o.op <;> rw [ho] at e hk <;> first | (exfalso; revert hk; show ¬ (3 = 2); decide) | (exfalso; revert hk; show ¬ (0 = 2); decide) | (exfalso; revert hk; show ¬ (1 = 2); decide) | dsimp only
  case alloc el =>
    have e : cAlloc E h el = .ok (v, h') := e
    obtain ⟨i, hi, e1⟩ := ty_ok e
    have hti := hT _ _ hi
    obtain ⟨hn, e2⟩ := H.new_ok e1
    obtain ⟨rfl, rfl⟩ := okV_ok e2
    refine ⟨i.zero, el, hn, rfl, zeroFineL hti φ D, .inl rfl, fun φ' b1 b2 => ?_⟩
    refine runs_bind (?_ : Runs P (Instr.alloc el true (.tuple #[])) w (conc φ' (.ptr h.next 0)) _) (runs_pure _ _)
    refine runs_bind (zeroOf hti φ w) ?_
    refine runs_bind (a := ⟨w.heap.size, 0, none⟩) (w1 := push w (.cells (concL φ i.zero).toArray el)) ?_ ?_
    · show Runs P (newRow el (conc φ (zeroV i)).cells) w _ _
      rw [zeroCells hti]; exact runs_newRow _ _ _
    · exact runs_eq (by simp only [conc, b1, b2]) _
  case buildSlice tt len ps =>
    obtain ⟨us, hp, hf', e0⟩ := evp_ok ht hf _ e
    generalize hparts : ps.map (fun x => (x.1, rho ct x.2)) = parts
    have hp : parts.toList = us.map fun x => (x.1, conc φ x.2) := by rw [← hparts]; simpa using hp
    clear hparts
    obtain ⟨el, ie, hu, _, hie, e1⟩ := sliceElem_ok hT e0
    obtain ⟨hc, e2⟩ := chk_ok e1
    have hc : len * ie.size ≤ 16777216 := ble_le hc
    rw [rep_eq] at e2
    obtain ⟨cs, e3, c2, c3, c4⟩ := fillK_ok (φ := φ) (D := D) (fun j => some (j * ie.size, ie.size)) (scale ie.size us) us _ e2 (by
      have hs : ∀ l : List (Nat × V), (scale ie.size l).map (fun x => (some (x.1, x.2.1), x.2.2)) = l.map (fun x => (some (x.1 * ie.size, ie.size), x.2)) := by
        intro l
        induction l with
        | nil => rfl
        | cons x l ih =>
          show _ :: List.map _ (scale ie.size l) = _
          rw [ih]; rfl
      exact hs us) hf' (fine_rep hie φ _ len)
    obtain ⟨hn, e4⟩ := H.new_ok e3
    obtain ⟨rfl, rfl⟩ := okV_ok e4
    refine ⟨cs, el, hn, rfl, c3, .inr ⟨len, rfl⟩, fun φ' b1 b2 => ?_⟩
    refine runs_bind (?_ : Runs P (Instr.buildSlice tt len parts) w (conc φ' (.sl h.next 0 len len)) _) (runs_pure _ _)
    unfold Instr.buildSlice
    refine runs_bind (runs_underlying hu w) ?_
    dsimp only
    refine runs_bind (sizeOfT hie w) ?_
    rw [if_neg (by omega)]
    have fin : ∀ zero : Array Value, (Array.range (len * ie.size)).map (zero[· % zero.size]!) = (concL φ (List.replicate len ie.zero).flatten).toArray →
        Runs P (do
          let some cells := Instr.fill (fun i => some (i * ie.size, ie.size)) ((Array.range (len * ie.size)).map (zero[· % zero.size]!)) parts.toList | stuck "buildSlice: a part of the wrong size"
          pure (Value.slice (some (← newRow el cells)) len len)) w (conc φ' (.sl h.next 0 len len)) (push w (.cells (concL φ cs).toArray el)) := by
      intro zero hz
      rw [hz, hp, c4]
      refine runs_bind (runs_newRow el _ w) ?_
      exact runs_eq (by simp [conc, b1, b2]) _
    by_cases h0 : len * ie.size = 0
    · rw [if_pos h0]
      refine runs_bind (runs_pure _ w) ?_
      refine fin #[] ?_
      have hnil : (concL φ (List.replicate len ie.zero).flatten) = [] := by
        apply List.eq_nil_of_length_eq_zero
        rw [concL_toList]; simp [hie.zlen]; rcases Nat.mul_eq_zero.1 h0 with h | h <;> simp [h]
      rw [h0, hnil]; simp
    · rw [if_neg h0]
      refine runs_bind (zeroOf hie φ w) ?_
      refine runs_bind (runs_pure _ w) ?_
      refine fin _ ?_
      have hz := zeros_conc hie φ len
      rw [zsize hie] at hz
      rw [zsize hie, hz]
  case call c =>
    obtain ⟨f, as, ts⟩ := c
    cases f with
    | builtin b => cases b <;> first | exact absurd hk (by show ¬ (3 = 2); decide) | exact absurd hk (by show ¬ (0 = 2); decide) | exact absurd hk (by show ¬ (1 = 2); decide)
    | _ => exact absurd hk (by show ¬ (3 = 2); decide)

/-- a block that lies in memory already is told of -/
theorem Inv.reveal (I : Inv P φ h w) {cs : List V} {el : TypeId} (hn : h.next < 262144) (hf : fineL φ (· < h.next) cs) (hc : w.heap[φ.blk h.next]? = some (.cells (concL φ cs).toArray el)) (h0 : φ.off h.next = 0)
    (hx : ∀ b, Live h b → φ.blk b ≠ φ.blk h.next) : Inv P φ (h.add (.cells cs el false 0 0)) w := by
  refine ⟨⟨?_, ?_, by show h.next + 1 ≤ 262144; omega, ?_⟩, ?_⟩
  · intro b x hx
    rw [H.get_add _ _ _ hn] at hx
    by_cases hb : b = h.next
    · subst hb
      rw [if_pos rfl] at hx
      cases hx
      rw [hc]; exact ORel_cells h0
    · rw [if_neg hb] at hx; exact I.mem.rel b x hx
  · intro b x hx
    rw [H.get_add _ _ _ hn] at hx
    show b < h.next + 1
    by_cases hb : b = h.next
    · omega
    · rw [if_neg hb] at hx
      have := I.mem.lt b x hx; omega
  · rintro b b' ⟨x, hx1, hw⟩ ⟨y, hy, hd⟩ he
    rw [H.get_add _ _ _ hn] at hx1 hy
    by_cases hb : b = h.next
    · by_cases hb' : b' = h.next
      · omega
      · rw [if_neg hb'] at hy
        subst hb
        exact absurd he.symm (hx b' ⟨y, hy, hd⟩)
    · rw [if_neg hb] at hx1
      by_cases hb' : b' = h.next
      · subst hb'
        exact absurd he (hx b ⟨x, hx1, by intro e; subst e; cases hw⟩)
      · rw [if_neg hb'] at hy
        exact I.mem.inj b b' ⟨x, hx1, hw⟩ ⟨y, hy, hd⟩ he
  · intro b x hx
    rw [H.get_add _ _ _ hn] at hx
    have hD : ∀ a, a < h.next → a < (h.add (.cells cs el false 0 0)).next := fun a ha => by show a < h.next + 1; omega
    by_cases hb : b = h.next
    · rw [if_pos hb] at hx
      cases hx
      exact fineO_same (Phi.Same.refl _ φ) hD hf
    · rw [if_neg hb] at hx
      exact fineO_same (Phi.Same.refl _ φ) hD (I.fine b x hx)
end Go.Vint
namespace Go.Vint

/-! ## What the plan of a drawn region tells -/
theorem sub_bit {a b j : Nat} (h : sub a b = true) (hj : bit a j = true) : bit b j = true := by
  have h : Nat.land a b = a := beq_eq h
  rw [bit_test] at hj ⊢
  rw [← h] at hj
  have : (a &&& b).testBit j = true := hj
  rw [Nat.testBit_and, Bool.and_eq_true] at this
  exact this.2
theorem memN_mem {n : Nat} {l : List Nat} : memN n l = true ↔ n ∈ l := by
  induction l with
  | nil => simp [memN]
  | cons m l ih =>
    show or (Nat.beq n m) (memN n l) = true ↔ _
    rw [Bool.or_eq_true, ih, List.mem_cons, beq_dec, decide_eq_true_eq]
theorem opt_some {α β : Type} {x : Option α} {k : α → Option β} {r : β} (h : (Option.casesOn x none k : Option β) = some r) : ∃ a, x = some a ∧ k a = some r := by
  cases x with
  | none => cases h
  | some a => exact ⟨a, rfl, h⟩
theorem bool_some {β : Type} {x : Bool} {k : Option β} {r : β} (h : (Bool.casesOn x none k : Option β) = some r) : x = true ∧ k = some r := by
  cases x with
  | false => cases h
  | true => exact ⟨rfl, h⟩

theorem maskOf_ok (ms : List Nat) (es : List Edge) : ∀ {m : Nat}, maskOf ms es = some m →
    (∀ e ∈ es, binding e = true → e.on < ms.length) ∧ ∀ j, bit m j = true → ∃ e ∈ es, binding e = true ∧ (j = e.on ∨ ∃ m', ms[e.on]? = some m' ∧ bit m' j = true) := by
  induction es with
  | nil =>
    intro m h
    cases h
    refine ⟨by simp, fun j hj => ?_⟩
    rw [bit_test] at hj; simp at hj
  | cons e es ih =>
    intro m h
    obtain ⟨r, hr, h1⟩ := opt_some (x := maskOf ms es) h
    obtain ⟨a1, a2⟩ := ih hr
    cases hb : binding e with
    | false =>
      rw [hb] at h1
      cases h1
      refine ⟨fun x hx hbx => ?_, fun j hj => ?_⟩
      · rcases List.mem_cons.1 hx with rfl | hx
        · rw [hb] at hbx; cases hbx
        · exact a1 x hx hbx
      · obtain ⟨x, hx, rest⟩ := a2 j hj
        exact ⟨x, List.mem_cons_of_mem _ hx, rest⟩
    | true =>
      rw [hb] at h1
      obtain ⟨m1, hm1, h2⟩ := opt_some (x := nth ms e.on) h1
      rw [nth_eq] at hm1
      cases h2
      refine ⟨fun x hx hbx => ?_, fun j hj => ?_⟩
      · rcases List.mem_cons.1 hx with rfl | hx
        · rcases Nat.lt_or_ge x.on ms.length with h | h
          · exact h
          · rw [List.getElem?_eq_none h] at hm1; cases hm1
        · exact a1 x hx hbx
      · rw [lor_bit, lor_bit, pow_bit, Bool.or_eq_true, Bool.or_eq_true, decide_eq_true_eq] at hj
        rcases hj with (hj | hj) | hj
        · obtain ⟨x, hx, rest⟩ := a2 j hj
          exact ⟨x, List.mem_cons_of_mem _ hx, rest⟩
        · exact ⟨e, List.mem_cons_self .., hb, .inr ⟨m1, hm1, hj⟩⟩
        · exact ⟨e, List.mem_cons_self .., hb, .inl hj.symm⟩
theorem masks_ok (l : List Oper) : ∀ {ms0 ms : List Nat}, masks l ms0 = some ms →
    ∃ ms1, ms = ms0 ++ ms1 ∧ ms1.length = l.length ∧ ∀ (i : Nat) (o : Oper) (m : Nat), l[i]? = some o → ms1[i]? = some m → maskOf (ms0 ++ ms1.take i) o.after.toList = some m := by
  induction l with
  | nil => intro ms0 ms h; cases h; exact ⟨[], by simp, rfl, by simp⟩
  | cons o l ih =>
    intro ms0 ms h
    obtain ⟨m, hm, h1⟩ := opt_some (x := maskOf ms0 o.after.toList) h
    obtain ⟨ms1, rfl, b1, b2⟩ := ih h1
    refine ⟨m :: ms1, by simp, by simp [b1], fun i o' m' ho hm' => ?_⟩
    cases i with
    | zero =>
      simp at ho hm'
      subst ho hm'
      simpa using hm
    | succ i =>
      simp at ho hm'
      have := b2 i o' m' ho hm'
      simpa using this
theorem seesOk_ok {i m : Nat} {rd : Bool} {us : List Nat} (ops : List Oper) : ∀ {j : Nat} {ms : List Nat}, seesOk i m rd us ops j ms = true →
    ∀ (k : Nat) (o : Oper) (mk : Nat), ops[k]? = some o → ms[k]? = some mk → ∀ d, o.dst = some d → bit m (j + k) = true ∨ (rd = false ∧ bit mk i = true) ∨ d ∉ us := by
  induction ops with
  | nil => intro j ms _ k o mk ho; simp at ho
  | cons o l ih =>
    intro j ms h k o' mk ho hm d hd
    cases ms with
    | nil => simp at hm
    | cons m0 ms =>
      obtain ⟨h1, h2⟩ := and_ok h
      cases k with
      | zero =>
        simp at ho hm
        subst ho hm
        rw [hd] at h1
        have h1 : or (bit m j) (or (and (not rd) (bit m0 i)) (not (memN d us))) = true := h1
        rw [Bool.or_eq_true, Bool.or_eq_true, Bool.and_eq_true] at h1
        rcases h1 with h | ⟨h, h'⟩ | h
        · exact .inl h
        · exact .inr (.inl ⟨(by cases rd <;> first | rfl | cases h), h'⟩)
        · refine .inr (.inr fun hmem => ?_)
          rw [memN_mem.2 hmem] at h; cases h
      | succ k =>
        simp at ho hm
        have := ih h2 k o' mk ho hm d hd
        rwa [show j + (k + 1) = Nat.succ j + k from by omega]
theorem hyg_ok {all : List Oper} {allMs : List Nat} (ops : List Oper) : ∀ {i : Nat} {ms : List Nat}, hyg all allMs ops i ms = true →
    ∀ (k : Nat) (o : Oper) (m : Nat), ops[k]? = some o → ms[k]? = some m → seesOk (i + k) m (Nat.beq (kindOp o.op) 1) (tmpsOf o.op.operands.toList) all 0 allMs = true ∧ guardOk m o = true := by
  induction ops with
  | nil => intro i ms _ k o mk ho; simp at ho
  | cons o l ih =>
    intro i ms h k o' mk ho hm
    cases ms with
    | nil => simp at hm
    | cons m0 ms =>
      obtain ⟨h1, h2⟩ := and_ok h
      cases k with
      | zero =>
        simp at ho hm
        subst ho hm
        exact and_ok h1
      | succ k =>
        simp at ho hm
        have := ih h2 k o' mk ho hm
        rwa [show i + (k + 1) = Nat.succ i + k from by omega]
theorem mem_dsts {ops : List Oper} {k : Nat} {o : Oper} {d : Nat} (h : ops[k]? = some o) (hd : o.dst = some d) : d ∈ dsts ops := by
  induction ops generalizing k with
  | nil => simp at h
  | cons o' l ih =>
    have step : d ∈ dsts l → d ∈ dsts (o' :: l) := by
      intro hm
      show d ∈ (Option.casesOn o'.dst (dsts l) fun d => d :: dsts l : List Nat)
      cases o'.dst with
      | none => exact hm
      | some x => exact List.mem_cons_of_mem _ hm
    cases k with
    | zero =>
      simp at h
      subst h
      show d ∈ (Option.casesOn o'.dst (dsts l) fun d => d :: dsts l : List Nat)
      rw [hd]; exact List.mem_cons_self ..
    | succ k => simp at h; exact step (ih h)
theorem distinct_ok {ops : List Oper} (h : distinct (dsts ops) = true) : ∀ {i j : Nat} {oi oj : Oper} {d : Nat}, ops[i]? = some oi → ops[j]? = some oj → oi.dst = some d → oj.dst = some d → i = j := by
  induction ops with
  | nil => intro i j oi oj d hi; simp at hi
  | cons o l ih =>
    have h' : distinct (dsts l) = true ∧ ∀ d, o.dst = some d → d ∉ dsts l := by
      have h : distinct (Option.casesOn o.dst (dsts l) fun d => d :: dsts l : List Nat) = true := h
      cases hd : o.dst with
      | none => rw [hd] at h; exact ⟨h, by simp⟩
      | some x =>
        rw [hd] at h
        obtain ⟨h1, h2⟩ := and_ok h
        refine ⟨h2, fun d hd hm => ?_⟩
        cases hd
        rw [memN_mem.2 hm] at h1; cases h1
    intro i j oi oj d hi hj di dj
    cases i with
    | zero =>
      simp at hi; subst hi
      cases j with
      | zero => rfl
      | succ j => simp at hj; exact absurd (mem_dsts hj dj) (h'.2 d di)
    | succ i =>
      simp at hi
      cases j with
      | zero => simp at hj; subst hj; exact absurd (mem_dsts hi di) (h'.2 d dj)
      | succ j => simp at hj; rw [ih h'.1 hi hj di dj]
theorem entries_ok (ops : List Oper) : ∀ {i : Nat} {ms : List Nat} {x : En}, x ∈ entries ops i ms → ∃ k o m, ops[k]? = some o ∧ ms[k]? = some m ∧ x = ⟨i + k, kindOp o.op, m⟩ := by
  induction ops with
  | nil => intro i ms x h; cases h
  | cons o l ih =>
    intro i ms x h
    cases ms with
    | nil => cases h
    | cons m ms =>
      rcases List.mem_cons.1 h with rfl | h
      · exact ⟨0, o, m, rfl, rfl, rfl⟩
      · obtain ⟨k, o', m', h1, h2, h3⟩ := ih h
        exact ⟨k + 1, o', m', by simpa using h1, by simpa using h2, by rw [h3, show i + (k + 1) = Nat.succ i + k from by omega]⟩
theorem entries_len (ops : List Oper) : ∀ {i : Nat} {ms : List Nat}, ms.length = ops.length → lenL (entries ops i ms) = ops.length := by
  induction ops with
  | nil => intro i ms _; rfl
  | cons o l ih =>
    intro i ms h
    cases ms with
    | nil => simp at h
    | cons m ms =>
      simp at h
      show Nat.succ (lenL (entries l (Nat.succ i) ms)) = _
      rw [ih h]; rfl
theorem kindOp_le (o : Op) : kindOp o ≤ 3 := by
  cases o <;> first | exact Nat.zero_le _ | (show 1 ≤ 3; omega) | (show 2 ≤ 3; omega) | (show 3 ≤ 3; omega) | skip
  case call c =>
    obtain ⟨f, as, ts⟩ := c
    cases f with
    | builtin b => cases b <;> first | exact Nat.zero_le _ | (show 1 ≤ 3; omega) | (show 3 ≤ 3; omega)
    | _ => show 3 ≤ 3; omega
theorem mem_unsettled {m j : Nat} {l : List Nat} (h : j ∈ l) : j ∈ unsettled m l ∨ bit m j = true := by
  induction l with
  | nil => simp at h
  | cons i l ih =>
    show j ∈ (Bool.casesOn (bit m i) (i :: unsettled m l) (unsettled m l) : List Nat) ∨ _
    rcases List.mem_cons.1 h with rfl | h
    · cases hb : bit m j with
      | false => left; exact List.mem_cons_self ..
      | true => exact .inr rfl
    · rcases ih h with h | h
      · left
        cases bit m i with
        | false => exact List.mem_cons_of_mem _ h
        | true => exact h
      · exact .inr h
theorem pick_ok {f : Nat → Bool} {s : PS} (l : List En) {x : En} (h : pick f s l = some x) : x ∈ l ∧ f x.kind = true ∧ bit s.done x.i = false ∧ sub x.mask s.done = true := by
  induction l with
  | nil => cases h
  | cons y l ih =>
    have h : (Bool.casesOn (and (f y.kind) (and (not (bit s.done y.i)) (sub y.mask s.done))) (pick f s l) (some y) : Option En) = some x := h
    cases hb : and (f y.kind) (and (not (bit s.done y.i)) (sub y.mask s.done)) with
    | false => rw [hb] at h; obtain ⟨a, b⟩ := ih h; exact ⟨List.mem_cons_of_mem _ a, b⟩
    | true =>
      rw [hb] at h
      cases h
      obtain ⟨h1, h2⟩ := and_ok hb
      obtain ⟨h3, h4⟩ := and_ok h2
      exact ⟨List.mem_cons_self .., h1, by simpa using h3, h4⟩

structure PStep (x : En) (s : PS) (p : Pl) (s' : PS) : Prop where
  i : p.i = x.i
  done : s'.done = Nat.lor s.done (Nat.pow 2 x.i)
  kind : p.kind = x.kind
  loud : x.kind = 1 ∨ x.kind = 3 → sub s.loud x.mask = true
  loud' : s'.loud = if x.kind = 3 then Nat.lor s.loud (Nat.pow 2 x.i) else s.loud
  made : x.kind = 3 → sub s.made x.mask = true
  made' : s'.made = if x.kind = 2 then Nat.lor s.made (Nat.pow 2 x.i) else s.made
  again : x.kind = 3 → p.again = unsettled x.mask s.reads ∧ s'.reads = p.again
  read : x.kind = 1 → s'.reads = x.i :: s.reads
  reads : x.kind = 0 ∨ x.kind = 2 → s'.reads = s.reads
theorem plan1_ok {β : Type} {x : En} {s : PS} {k : Pl → PS → Option β} {r : β} (hk : x.kind ≤ 3) (h : plan1 x s k = some r) : ∃ p s', PStep x s p s' ∧ k p s' = some r := by
  obtain ⟨i, kind, mask⟩ := x
  have hk : kind ≤ 3 := hk
  let d := Nat.lor s.done (Nat.pow 2 i)
  rcases kind with _ | _ | _ | _ | kind
  · exact ⟨⟨i, 0, []⟩, ⟨d, s.loud, s.made, s.reads⟩, ⟨rfl, rfl, rfl, by intro h; simp at h, by simp, by simp, by simp, by simp, by simp, fun _ => rfl⟩, h⟩
  · obtain ⟨h1, h2⟩ := bool_some (x := sub s.loud mask) h
    exact ⟨⟨i, 1, []⟩, ⟨d, s.loud, s.made, i :: s.reads⟩, ⟨rfl, rfl, rfl, fun _ => h1, by simp, by simp, by simp, by simp, fun _ => rfl, by simp⟩, h2⟩
  · exact ⟨⟨i, 2, []⟩, ⟨d, s.loud, Nat.lor s.made (Nat.pow 2 i), s.reads⟩, ⟨rfl, rfl, rfl, by simp, by simp, by simp, by simp, by simp, by simp, fun _ => rfl⟩, h⟩
  · obtain ⟨h1, h2⟩ := bool_some (x := and (sub s.loud mask) (sub s.made mask)) h
    exact ⟨⟨i, 3, unsettled mask s.reads⟩, ⟨d, Nat.lor s.loud (Nat.pow 2 i), s.made, unsettled mask s.reads⟩, ⟨rfl, rfl, rfl, fun _ => (and_ok h1).1, by simp, fun _ => (and_ok h1).2, by simp, fun _ => ⟨rfl, rfl⟩, by simp, by simp⟩, h2⟩
  · omega
inductive Pln (l : List En) : PS → List Pl → Prop
  | nil {s : PS} : s.done = 2 ^ lenL l - 1 → Pln l s []
  | cons {s s' : PS} {x : En} {p : Pl} {r : List Pl} : x ∈ l → bit s.done x.i = false → sub x.mask s.done = true → PStep x s p s' → Pln l s' r → Pln l s (p :: r)
theorem planFrom_ok (l : List En) (hl : ∀ x ∈ l, x.kind ≤ 3) (n : Nat) : ∀ {s : PS} {pl : List Pl}, planFrom l n s = some pl → Pln l s pl := by
  induction n with
  | zero =>
    intro s pl h
    obtain ⟨h1, h2⟩ := bool_some (x := Nat.beq s.done (Nat.sub (Nat.pow 2 (lenL l)) 1)) h
    cases h2
    exact .nil (beq_eq h1)
  | succ n ih =>
    intro s pl h
    have go : ∀ {f : Nat → Bool} {x : En}, pick f s l = some x → plan1 x s (fun p s => Option.casesOn (planFrom l n s) none fun r => some (p :: r)) = some pl → Pln l s pl := by
      intro f x hp h
      obtain ⟨h1, _, h3, h4⟩ := pick_ok l hp
      obtain ⟨p, s', h5, h6⟩ := plan1_ok (hl x h1) h
      obtain ⟨r, h7, h8⟩ := opt_some (x := planFrom l n s') h6
      cases h8
      exact .cons h1 h3 h4 h5 (ih h7)
    have h : (Option.casesOn (pick (fun k => Nat.ble k 1) s l) (Option.casesOn (pick (fun k => Nat.beq k 3) s l) (Option.casesOn (pick (fun k => Nat.beq k 2) s l) none
      (fun x => plan1 x s (fun p s => Option.casesOn (planFrom l n s) none fun r => some (p :: r)))) (fun x => plan1 x s (fun p s => Option.casesOn (planFrom l n s) none fun r => some (p :: r)))) (fun x => plan1 x s (fun p s => Option.casesOn (planFrom l n s) none fun r => some (p :: r))) : Option (List Pl)) = some pl := h
    cases h1 : pick (fun k => Nat.ble k 1) s l with
    | some x => rw [h1] at h; exact go h1 h
    | none =>
      rw [h1] at h
      cases h2 : pick (fun k => Nat.beq k 3) s l with
      | some x => rw [h2] at h; exact go h2 h
      | none =>
        rw [h2] at h
        cases h3 : pick (fun k => Nat.beq k 2) s l with
        | some x => rw [h3] at h; exact go h3 h
        | none => rw [h3] at h; cases h

/-- the plan, by places -/
structure Seq (M kd : Nat → Nat) (n : Nat) (s : PS) (pl : List Pl) : Prop where
  lt : ∀ (k : Nat) (p : Pl), pl[k]? = some p → p.i < n ∧ p.kind = kd p.i ∧ bit s.done p.i = false
  ahead : ∀ (k : Nat) (p : Pl), pl[k]? = some p → ∀ j, bit (M p.i) j = true → bit s.done j = true ∨ ∃ k' p', k' < k ∧ pl[k']? = some p' ∧ p'.i = j
  inj : ∀ (k k' : Nat) (p p' : Pl), pl[k]? = some p → pl[k']? = some p' → p.i = p'.i → k = k'
  all : ∀ i, i < n → bit s.done i = true ∨ ∃ (k : Nat) (p : Pl), pl[k]? = some p ∧ p.i = i
  loud0 : ∀ (k : Nat) (p : Pl), pl[k]? = some p → (p.kind = 1 ∨ p.kind = 3) → ∀ j, bit s.loud j = true → bit (M p.i) j = true
  loud : ∀ (k k' : Nat) (p p' : Pl), k' < k → pl[k]? = some p → pl[k']? = some p' → p'.kind = 3 → (p.kind = 1 ∨ p.kind = 3) → bit (M p.i) p'.i = true
  made0 : ∀ (k : Nat) (p : Pl), pl[k]? = some p → p.kind = 3 → ∀ j, bit s.made j = true → bit (M p.i) j = true
  made : ∀ (k k' : Nat) (p p' : Pl), k' < k → pl[k]? = some p → pl[k']? = some p' → p'.kind = 2 → p.kind = 3 → bit (M p.i) p'.i = true
  again0 : ∀ (k : Nat) (p : Pl), pl[k]? = some p → p.kind = 3 → ∀ j ∈ s.reads, j ∈ p.again ∨ ∃ (k'' : Nat) (p'' : Pl), k'' ≤ k ∧ pl[k'']? = some p'' ∧ p''.kind = 3 ∧ bit (M p''.i) j = true
  again : ∀ (k k' : Nat) (p p' : Pl), k' < k → pl[k]? = some p → pl[k']? = some p' → p'.kind = 1 → p.kind = 3 → p'.i ∈ p.again ∨ ∃ (k'' : Nat) (p'' : Pl), k'' ≤ k ∧ pl[k'']? = some p'' ∧ p''.kind = 3 ∧ bit (M p''.i) p'.i = true
theorem seq_ok {l : List En} {M kd : Nat → Nat} {n : Nat} (hn : lenL l = n) (hkd : ∀ i, kd i ≤ 3) (hl : ∀ x ∈ l, x.i < n ∧ x.mask = M x.i ∧ x.kind = kd x.i) {s : PS} {pl : List Pl} (h : Pln l s pl) : Seq M kd n s pl := by
  induction h with
  | nil hd =>
    refine ⟨by simp, by simp, by simp, fun i hi => .inl ?_, by simp, by simp, by simp, by simp, by simp, by simp⟩
    rw [hd, hn, bit_test, Nat.testBit_two_pow_sub_one]; simpa using hi
  | @cons s s' x p r hx hb hs hp _ ih =>
    obtain ⟨x1, x2, x3⟩ := hl x hx
    have pi : p.i = x.i := hp.i
    have d' : ∀ j, bit s'.done j = true ↔ bit s.done j = true ∨ j = x.i := by
      intro j
      rw [hp.done, lor_bit, pow_bit, Bool.or_eq_true, decide_eq_true_eq]
      exact or_congr Iff.rfl ⟨fun h => h.symm, fun h => h.symm⟩
    have l' : ∀ j, bit s'.loud j = true ↔ bit s.loud j = true ∨ (x.kind = 3 ∧ j = x.i) := by
      intro j
      rw [hp.loud']
      by_cases h3 : x.kind = 3
      · rw [if_pos h3, lor_bit, pow_bit, Bool.or_eq_true, decide_eq_true_eq]
        exact or_congr Iff.rfl ⟨fun h => ⟨h3, h.symm⟩, fun h => h.2.symm⟩
      · rw [if_neg h3]; exact ⟨.inl, fun h => h.resolve_right fun h => h3 h.1⟩
    have m' : ∀ j, bit s'.made j = true ↔ bit s.made j = true ∨ (x.kind = 2 ∧ j = x.i) := by
      intro j
      rw [hp.made']
      by_cases h3 : x.kind = 2
      · rw [if_pos h3, lor_bit, pow_bit, Bool.or_eq_true, decide_eq_true_eq]
        exact or_congr Iff.rfl ⟨fun h => ⟨h3, h.symm⟩, fun h => h.2.symm⟩
      · rw [if_neg h3]; exact ⟨.inl, fun h => h.resolve_right fun h => h3 h.1⟩
    have r' : ∀ j ∈ s.reads, j ∈ s'.reads ∨ (x.kind = 3 ∧ bit x.mask j = true) := by
      intro j hj
      have hx3 : x.kind = 0 ∨ x.kind = 1 ∨ x.kind = 2 ∨ x.kind = 3 ∨ 3 < x.kind := by omega
      rcases hx3 with h | h | h | h | h
      · left; rw [hp.reads (.inl h)]; exact hj
      · left; rw [hp.read h]; exact List.mem_cons_of_mem _ hj
      · left; rw [hp.reads (.inr h)]; exact hj
      · obtain ⟨h1, h2⟩ := hp.again h
        rw [h2, h1]
        exact (mem_unsettled hj).imp id fun hm => ⟨h, hm⟩
      · exfalso; have h4 := hkd x.i; omega
    have hnd : ∀ (k : Nat) (q : Pl), r[k]? = some q → bit s.done q.i = false ∧ q.i ≠ x.i := by
      intro k q hq
      have := (ih.lt k q hq).2.2
      constructor
      · cases hb' : bit s.done q.i with
        | false => rfl
        | true => rw [(d' q.i).2 (.inl hb')] at this; cases this
      · intro e
        rw [(d' q.i).2 (.inr e)] at this; cases this
    have pk : p.kind = kd p.i := by rw [hp.kind, x3, pi]
    have xk : x.kind = p.kind := hp.kind.symm
    have xm : M p.i = x.mask := by rw [pi, x2]
    refine ⟨?_, ?_, ?_, ?_, ?_, ?_, ?_, ?_, ?_, ?_⟩
    · intro k q hq
      cases k with
      | zero => simp at hq; subst hq; exact ⟨by rw [pi]; exact x1, pk, by rw [pi]; exact hb⟩
      | succ k => simp at hq; obtain ⟨a, b, _⟩ := ih.lt k q hq; exact ⟨a, b, (hnd k q hq).1⟩
    · intro k q hq j hj
      cases k with
      | zero => simp at hq; subst hq; rw [xm] at hj; exact .inl (sub_bit hs hj)
      | succ k =>
        simp at hq
        rcases ih.ahead k q hq j hj with h | ⟨k', p', h1, h2, h3⟩
        · rcases (d' j).1 h with h | h
          · exact .inl h
          · exact .inr ⟨0, p, by omega, rfl, by rw [pi, h]⟩
        · exact .inr ⟨k' + 1, p', by omega, by simpa using h2, h3⟩
    · intro k k' q q' hq hq' he
      cases k with
      | zero =>
        cases k' with
        | zero => rfl
        | succ k' =>
          simp at hq hq'
          subst hq
          exact absurd (he.symm.trans pi) (hnd k' q' hq').2
      | succ k =>
        cases k' with
        | zero =>
          simp at hq hq'
          subst hq'
          exact absurd (he.trans pi) (hnd k q hq).2
        | succ k' => simp at hq hq'; rw [ih.inj k k' q q' hq hq' he]
    · intro i hi
      rcases ih.all i hi with h | ⟨k, q, h1, h2⟩
      · rcases (d' i).1 h with h | h
        · exact .inl h
        · exact .inr ⟨0, p, rfl, by rw [pi, h]⟩
      · exact .inr ⟨k + 1, q, by simpa using h1, h2⟩
    · intro k q hq hk j hj
      cases k with
      | zero => simp at hq; subst hq; rw [xm]; exact sub_bit (hp.loud (by omega)) hj
      | succ k => simp at hq; exact ih.loud0 k q hq hk j ((l' j).2 (.inl hj))
    · intro k k' q q' hlt hq hq' h3 hk
      cases k with
      | zero => omega
      | succ k =>
        simp at hq
        cases k' with
        | zero =>
          simp at hq'
          subst hq'
          exact ih.loud0 k q hq hk _ ((l' _).2 (.inr ⟨by omega, pi⟩))
        | succ k' => simp at hq'; exact ih.loud k k' q q' (by omega) hq hq' h3 hk
    · intro k q hq hk j hj
      cases k with
      | zero => simp at hq; subst hq; rw [xm]; exact sub_bit (hp.made (by omega)) hj
      | succ k => simp at hq; exact ih.made0 k q hq hk j ((m' j).2 (.inl hj))
    · intro k k' q q' hlt hq hq' h3 hk
      cases k with
      | zero => omega
      | succ k =>
        simp at hq
        cases k' with
        | zero =>
          simp at hq'
          subst hq'
          exact ih.made0 k q hq hk _ ((m' _).2 (.inr ⟨by omega, pi⟩))
        | succ k' => simp at hq'; exact ih.made k k' q q' (by omega) hq hq' h3 hk
    · intro k q hq hk j hj
      cases k with
      | zero =>
        simp at hq; subst hq
        rcases mem_unsettled (m := x.mask) hj with h | h
        · left; rw [(hp.again (by omega)).1]; exact h
        · right; exact ⟨0, p, by omega, rfl, hk, by rw [xm]; exact h⟩
      | succ k =>
        simp at hq
        rcases r' j hj with h | ⟨h, hm⟩
        · rcases ih.again0 k q hq hk j h with h | ⟨k2, q2, h1, h2, h3, h4⟩
          · exact .inl h
          · exact .inr ⟨k2 + 1, q2, by omega, by simpa using h2, h3, h4⟩
        · exact .inr ⟨0, p, by omega, rfl, by omega, by rw [xm]; exact hm⟩
    · intro k k' q q' hlt hq hq' h1 hk
      cases k with
      | zero => omega
      | succ k =>
        simp at hq
        have lift : (q'.i ∈ q.again ∨ ∃ k2 q2, k2 ≤ k ∧ r[k2]? = some q2 ∧ q2.kind = 3 ∧ bit (M q2.i) q'.i = true) → q'.i ∈ q.again ∨ ∃ k2 q2, k2 ≤ k + 1 ∧ (p :: r)[k2]? = some q2 ∧ q2.kind = 3 ∧ bit (M q2.i) q'.i = true := by
          rintro (h | ⟨k2, q2, a1, a2, a3, a4⟩)
          · exact .inl h
          · exact .inr ⟨k2 + 1, q2, by omega, by simpa using a2, a3, a4⟩
        cases k' with
        | zero =>
          simp at hq'
          subst hq'
          refine lift (ih.again0 k q hq hk _ ?_)
          rw [hp.read (by omega), pi]; exact List.mem_cons_self ..
        | succ k' => simp at hq'; exact lift (ih.again k k' q q' (by omega) hq hq' h1 hk)

structure Plan (ops : List Oper) (M : Nat → Nat) (pl : List Pl) : Prop where
  edge : ∀ (i : Nat) (o : Oper), ops[i]? = some o → ∀ e ∈ o.after.toList, binding e = true → e.on < i
  mask : ∀ (i : Nat) (o : Oper), ops[i]? = some o → ∀ j, bit (M i) j = true → ∃ e ∈ o.after.toList, binding e = true ∧ (j = e.on ∨ bit (M e.on) j = true)
  sees : ∀ (i : Nat) (o : Oper) (j : Nat) (oj : Oper) (d : Nat), ops[i]? = some o → ops[j]? = some oj → oj.dst = some d → bit (M i) j = true ∨ (kindOp o.op ≠ 1 ∧ bit (M j) i = true) ∨ d ∉ tmpsOf o.op.operands.toList
  guard : ∀ (i : Nat) (o : Oper) (g : Nat) (b : Bool), ops[i]? = some o → o.guard = some (g, b) → bit (M i) g = true
  one : ∀ {i j : Nat} {oi oj : Oper} {d : Nat}, ops[i]? = some oi → ops[j]? = some oj → oi.dst = some d → oj.dst = some d → i = j
  kind : ∀ (k : Nat) (p : Pl), pl[k]? = some p → ∃ o, ops[p.i]? = some o ∧ p.kind = kindOp o.op
  ahead : ∀ (k : Nat) (p : Pl), pl[k]? = some p → ∀ j, bit (M p.i) j = true → ∃ k' p', k' < k ∧ pl[k']? = some p' ∧ p'.i = j
  inj : ∀ (k k' : Nat) (p p' : Pl), pl[k]? = some p → pl[k']? = some p' → p.i = p'.i → k = k'
  all : ∀ i, i < ops.length → ∃ (k : Nat) (p : Pl), pl[k]? = some p ∧ p.i = i
  loud : ∀ (k k' : Nat) (p p' : Pl), k' < k → pl[k]? = some p → pl[k']? = some p' → p'.kind = 3 → (p.kind = 1 ∨ p.kind = 3) → bit (M p.i) p'.i = true
  made : ∀ (k k' : Nat) (p p' : Pl), k' < k → pl[k]? = some p → pl[k']? = some p' → p'.kind = 2 → p.kind = 3 → bit (M p.i) p'.i = true
  again : ∀ (k k' : Nat) (p p' : Pl), k' < k → pl[k]? = some p → pl[k']? = some p' → p'.kind = 1 → p.kind = 3 → p'.i ∈ p.again ∨ ∃ (k'' : Nat) (p'' : Pl), k'' ≤ k ∧ pl[k'']? = some p'' ∧ p''.kind = 3 ∧ bit (M p''.i) p'.i = true
theorem plan_ok {ops : List Oper} {pl : List Pl} (h : plan ops = some pl) : ∃ M, Plan ops M pl := by
  obtain ⟨ms, hm, h1⟩ := opt_some (x := masks ops []) h
  obtain ⟨h2, h3⟩ := bool_some (x := and (hyg ops ms ops 0 ms) (distinct (dsts ops))) h1
  obtain ⟨h4, h5⟩ := and_ok h2
  obtain ⟨ms1, b0, b1, b2⟩ := masks_ok ops hm
  simp only [List.nil_append] at b0 b2
  subst b0
  have hget : ∀ (i : Nat) (o : Oper), ops[i]? = some o → ∃ m, ms[i]? = some m ∧ ms.getD i 0 = m := by
    intro i o ho
    have hlt : i < ops.length := by
      rcases Nat.lt_or_ge i ops.length with h | h
      · exact h
      · rw [List.getElem?_eq_none h] at ho; cases ho
    refine ⟨ms[i]'(by omega), List.getElem?_eq_getElem (by omega), ?_⟩
    rw [List.getD_eq_getElem?_getD, List.getElem?_eq_getElem (by omega)]; rfl
  have hkd : ∀ i : Nat, (match (ops[i]? : Option Oper) with | some o => kindOp o.op | none => 0) ≤ 3 := by
    intro i
    cases ops[i]? with
    | none => exact Nat.zero_le _
    | some o => exact kindOp_le o.op
  have S := seq_ok (M := fun i => ms.getD i 0) (kd := fun i : Nat => match (ops[i]? : Option Oper) with | some o => kindOp o.op | none => 0) (n := ops.length) (entries_len ops (i := 0) b1) hkd (fun x hx => by
    obtain ⟨k, o, m, e1, e2, rfl⟩ := entries_ok ops hx
    have hlt : k < ops.length := by
      rcases Nat.lt_or_ge k ops.length with h | h
      · exact h
      · rw [List.getElem?_eq_none h] at e1; cases e1
    refine ⟨by simpa using hlt, ?_, ?_⟩
    · simp only [Nat.zero_add]
      rw [List.getD_eq_getElem?_getD, e2]; rfl
    · simp only [Nat.zero_add]
      rw [e1]) (planFrom_ok _ (fun x hx => by
        obtain ⟨k, o, m, e1, e2, rfl⟩ := entries_ok ops hx
        exact kindOp_le o.op) _ h3)
  have z : ∀ j, bit 0 j = true → False := by intro j hj; rw [bit_test] at hj; simp at hj
  refine ⟨fun i => ms.getD i 0, ⟨?_, ?_, ?_, ?_, fun a b c d => distinct_ok h5 a b c d, ?_, ?_, S.inj, ?_, S.loud, S.made, S.again⟩⟩
  · intro i o ho e he hb
    obtain ⟨m, hm1, hm2⟩ := hget i o ho
    have := (maskOf_ok _ _ (b2 i o m ho hm1)).1 e he hb
    rw [List.length_take] at this
    omega
  · intro i o ho j hj
    obtain ⟨m, hm1, hm2⟩ := hget i o ho
    rw [hm2] at hj
    obtain ⟨e, he, hb, hj⟩ := (maskOf_ok _ _ (b2 i o m ho hm1)).2 j hj
    refine ⟨e, he, hb, hj.imp id ?_⟩
    rintro ⟨m', hm', hj⟩
    have : ms[e.on]? = some m' := by
      rw [List.getElem?_take] at hm'
      split at hm'
      · exact hm'
      · cases hm'
    rw [List.getD_eq_getElem?_getD, this]; exact hj
  · intro i o j oj d ho hoj hd
    obtain ⟨m, hm1, hm2⟩ := hget i o ho
    obtain ⟨mj, hmj1, hmj2⟩ := hget j oj hoj
    have := seesOk_ok ops (hyg_ok ops h4 i o m ho hm1).1 j oj mj hoj hmj1 d hd
    rw [hm2, hmj2]
    simp only [Nat.zero_add] at this
    refine this.imp id (Or.imp (And.imp (fun h => ?_) id) id)
    intro hk
    rw [hk] at h; cases h
  · intro i o g b ho hg
    obtain ⟨m, hm1, hm2⟩ := hget i o ho
    have := (hyg_ok ops h4 i o m ho hm1).2
    have : (Option.casesOn o.guard true fun g => bit m g.1 : Bool) = true := this
    rw [hg] at this
    rw [hm2]; exact this
  · intro k p hp
    obtain ⟨a, b, _⟩ := S.lt k p hp
    refine ⟨ops[p.i], List.getElem?_eq_getElem a, ?_⟩
    rw [b]
    simp only [List.getElem?_eq_getElem a]
  · intro k p hp j hj
    rcases S.ahead k p hp j hj with h | h
    · exact (z j h).elim
    · exact h
  · intro i hi
    rcases S.all i hi with h | h
    · exact (z i h).elim
    · exact h
end Go.Vint
namespace Go.Vint
variable {P : Program} {E : Env} {φ : Phi} {D : Nat → Prop} {w : World} {h h' hl : H} {t t' : Tm} {ct : Array Value} {v : V} {ih : Ih}

/-! ## What running the plan tells -/
theorem eqVal_eq (d : Nat) : ∀ {a b : V}, eqVal d a b = true → a = b := by
  induction d with
  | zero => intro a b h; cases h
  | succ d ih =>
    have eqs : ∀ (x y : List V), (List.rec (motive := fun _ => List V → Bool) (fun y => List.casesOn y true fun _ _ => false)
        (fun a _ jh y => List.casesOn y false fun b y => Bool.casesOn (eqVal d a b) false (jh y)) x y : Bool) = true → x = y := by
      intro x
      induction x with
      | nil =>
        intro y h
        cases y with
        | nil => rfl
        | cons _ _ => cases h
      | cons a x jh =>
        intro y h
        cases y with
        | nil => cases h
        | cons b y =>
          have h : (Bool.casesOn (eqVal d a b) false (List.rec (motive := fun _ => List V → Bool) (fun y => List.casesOn y true fun _ _ => false)
            (fun a _ jh y => List.casesOn y false fun b y => Bool.casesOn (eqVal d a b) false (jh y)) x y) : Bool) = true := h
          cases hb : eqVal d a b with
          | false => rw [hb] at h; cases h
          | true => rw [hb] at h; rw [ih hb, jh y h]
    intro a b h
    cases a <;> cases b <;> first | rfl | (cases h; done) | skip
    case bool.bool x y => cases x <;> cases y <;> first | rfl | cases h
    case int.int k x k' y =>
      obtain ⟨h1, h2⟩ := and_ok h
      rw [eqI_eq] at h2
      rw [sameK_eq h1, eq_of_beq h2]
    case str.str x y =>
      obtain ⟨h1, h2⟩ := and_ok h
      obtain ⟨n, l⟩ := x
      obtain ⟨n', l'⟩ := y
      rw [show n = n' from beq_eq h1, show l = l' from beq_eq h2]
    case ptr.ptr =>
      obtain ⟨h1, h2⟩ := and_ok h
      rw [beq_eq h1, beq_eq h2]
    case sl.sl =>
      obtain ⟨h0, h3⟩ := and_ok h
      obtain ⟨h1, h2⟩ := and_ok h0
      obtain ⟨h3, h4⟩ := and_ok h3
      rw [beq_eq h1, beq_eq h2, beq_eq h3, beq_eq h4]
    case gs.gs =>
      obtain ⟨h0, h3⟩ := and_ok h
      obtain ⟨h1, h2⟩ := and_ok h0
      obtain ⟨h3, h4⟩ := and_ok h3
      rw [beq_eq h1, beq_eq h2, beq_eq h3, beq_eq h4]
    case map.map => rw [beq_eq h]
    case fn.fn =>
      obtain ⟨h1, h2⟩ := and_ok h
      obtain ⟨h2, h3⟩ := and_ok h2
      rw [beq_eq h1, eqs _ _ h2, eqs _ _ h3]
    case agg.agg => rw [eqs _ _ h]
    case tup.tup => rw [eqs _ _ h]

theorem wantedK_nat {β : Type} {ops : List Oper} {o : Oper} {k : Bool → R β} {r : β} (e : wantedK ops t o k = .ok r) : ∃ b, wantedK ops t o R.ok = .ok b ∧ k b = .ok r := by
  unfold wantedK at *
  cases hg : o.guard with
  | none => rw [hg] at e; exact ⟨true, rfl, e⟩
  | some g =>
    obtain ⟨j, want⟩ := g
    rw [hg] at e
    obtain ⟨p, hp, e1⟩ := opt_ok (x := nth ops j) e
    obtain ⟨d, hd, e2⟩ := opt_ok (x := p.dst) e1
    dsimp only
    rw [hp]
    dsimp only
    rw [hd]
    dsimp only
    have e2 : evT t d (fun v => match v with | .bool b => k (Bool.casesOn b (not want) want) | _ => k false) = .ok r := e2
    rw [evT_at] at e2
    rw [evT_at]
    cases hat : t.at d with
    | none => rw [hat] at e2; cases e2
    | some u =>
      rw [hat] at e2
      dsimp only at e2 ⊢
      cases u <;> first | exact ⟨_, rfl, e2⟩
/-- the temporary that tells whether an operation is wanted -/
def gd (ops : List Oper) (o : Oper) : List Nat := match o.guard with
  | none => []
  | some g => match ops[g.1]? with
    | none => []
    | some p => p.dst.toList
theorem wantedK_alike {β : Type} {ops : List Oper} {o : Oper} (a : Alike (gd ops o) t t') (k : Bool → R β) : wantedK ops t' o k = wantedK ops t o k := by
  unfold wantedK
  unfold gd at a
  cases hg : o.guard with
  | none => rfl
  | some g =>
    obtain ⟨j, want⟩ := g
    rw [hg] at a
    dsimp only at a ⊢
    rw [nth_eq]
    cases hp : ops[j]? with
    | none => rfl
    | some p =>
      rw [hp] at a
      dsimp only at a ⊢
      cases hd : p.dst with
      | none => rfl
      | some d =>
        rw [hd] at a
        exact evT_alike a (by simp) _

structure St where
  hl : H
  t : Tm
  h : H
/-- a reading operation that is looked at again -/
def Again (E : Env) (ops : List Oper) (t : Tm) (h : H) (i : Nat) : Prop := ∃ o, ops[i]? = some o ∧ ∃ b, wantedK ops t o R.ok = .ok b ∧
  (b = true → ∃ d u h1, o.dst = some d ∧ t.at d = some u ∧ op1 E t h o.op = .ok (u, h1) ∧ h1.next = h.next)
theorem sameAgain_ok {ops : List Oper} {k : R (Tm × H)} {r : Tm × H} (l : List Nat) (e : sameAgain E ops t h l k = .ok r) : (∀ i ∈ l, Again E ops t h i) ∧ k = .ok r := by
  induction l with
  | nil => exact ⟨by simp, e⟩
  | cons i l jh =>
    have e : (Option.casesOn (nth ops i) (.no 133) fun o => wantedK ops t o fun b => Bool.casesOn b (sameAgain E ops t h l k)
      (Option.casesOn o.dst (.no 134) fun d => R.bind (op1 E t h o.op) fun x => Prod.casesOn x fun u h1 => chk (Nat.beq h1.next h.next) 136 (evT t d fun v => chk (eqVal 6 u v) 135 (sameAgain E ops t h l k))) : R (Tm × H)) = .ok r := e
    obtain ⟨o, ho, e1⟩ := opt_ok (x := nth ops i) e
    rw [nth_eq] at ho
    obtain ⟨b, hb, e2⟩ := wantedK_nat e1
    have main : sameAgain E ops t h l k = .ok r ∧ Again E ops t h i := by
      cases b with
      | false => exact ⟨e2, o, ho, false, hb, by simp⟩
      | true =>
        obtain ⟨d, hd, e3⟩ := opt_ok (x := o.dst) e2
        obtain ⟨⟨u, h1⟩, e4, e5⟩ := bind_ok e3
        obtain ⟨e6, e7⟩ := chk_ok e5
        rw [evT_at] at e7
        cases hat : t.at d with
        | none => rw [hat] at e7; cases e7
        | some u' =>
          rw [hat] at e7
          obtain ⟨e8, e9⟩ := chk_ok e7
          have := eqVal_eq _ e8
          subst this
          exact ⟨e9, o, ho, true, hb, fun _ => ⟨d, u, h1, hd, hat, e4, beq_eq e6⟩⟩
    obtain ⟨a1, a2⟩ := jh main.1
    refine ⟨fun j hj => ?_, a2⟩
    rcases List.mem_cons.1 hj with rfl | hj
    · exact main.2
    · exact a1 j hj

/-- one operation of the plan: from one state to the next -/
structure Stp (E : Env) (ih : Ih) (ops : List Oper) (p : Pl) (o : Oper) (a b : St) (v : V) (wn : Bool) : Prop where
  dst : ∀ d, o.dst = some d → d < a.t.n
  t : b.t = a.t.put o.dst v
  want : wantedK ops a.t o R.ok = .ok wn
  off : wn = false → v = .undef ∧ b.hl = a.hl ∧ b.h = a.h
  pure : wn = true → p.kind ≤ 1 → (∃ h1, op1 E a.t a.hl o.op = .ok (v, h1) ∧ h1.next = a.hl.next) ∧ b.hl = a.hl ∧ b.h = a.h
  made : wn = true → p.kind = 2 → op1 E a.t a.h o.op = .ok (v, b.h) ∧ b.hl = a.hl ∧ b.h.next = a.h.next + 1
  loud : wn = true → 3 ≤ p.kind → oper E ih a.t a.h o.op = .ok (v, b.h) ∧ b.hl = b.h ∧ a.h.next ≤ b.h.next ∧ ∀ i ∈ p.again, Again E ops b.t b.h i
theorem drawOp_ok {ops : List Oper} {p : Pl} {o : Oper} {k : H → Tm → H → R (Tm × H)} {r : Tm × H} (e : drawOp E ih ops p o hl t h k = .ok r) :
    ∃ hl1 t1 h1 v want, k hl1 t1 h1 = .ok r ∧ Stp E ih ops p o ⟨hl, t, h⟩ ⟨hl1, t1, h1⟩ v want := by
  obtain ⟨want, hw, e1⟩ := wantedK_nat e
  cases want with
  | false =>
    obtain ⟨hd, e2⟩ := dstK_ok (v := .undef) e1
    exact ⟨hl, _, h, .undef, false, e2, ⟨hd, rfl, hw, fun _ => ⟨rfl, rfl, rfl⟩, by simp, by simp, by simp⟩⟩
  | true =>
    obtain ⟨pi, pk, pa⟩ := p
    have small : pk ≤ 1 → R.bind (op1 E t hl o.op) (fun r => Prod.casesOn r fun v h' => chk (Nat.beq h'.next hl.next) 136 (dstK E.strict t o.dst v fun t => k hl t h)) = .ok r →
        ∃ hl1 t1 h1 v want, k hl1 t1 h1 = .ok r ∧ Stp E ih ops ⟨pi, pk, pa⟩ o ⟨hl, t, h⟩ ⟨hl1, t1, h1⟩ v want := by
      intro hk e2
      obtain ⟨⟨u, h1⟩, e3, e4⟩ := bind_ok e2
      obtain ⟨e5, e6⟩ := chk_ok e4
      obtain ⟨hd, e7⟩ := dstK_ok (v := u) e6
      exact ⟨hl, _, h, u, true, e7, ⟨hd, rfl, hw, by simp, fun _ _ => ⟨⟨h1, e3, beq_eq e5⟩, rfl, rfl⟩, fun _ h2 => by simp at h2; omega, fun _ h2 => by simp at h2; omega⟩⟩
    rcases pk with _ | _ | _ | pk
    · exact small (by omega) e1
    · exact small (by omega) e1
    · have e1 : R.bind (op1 E t h o.op) (fun r => Prod.casesOn r fun v h1 => chk (Nat.beq h1.next (Nat.succ h.next)) 142 (dstK E.strict t o.dst v fun t => k hl t h1)) = .ok r := e1
      obtain ⟨⟨u, h1⟩, e3, e4⟩ := bind_ok e1
      obtain ⟨e5, e6⟩ := chk_ok e4
      obtain ⟨hd, e7⟩ := dstK_ok (v := u) e6
      exact ⟨hl, _, h1, u, true, e7, ⟨hd, rfl, hw, by simp, fun _ h2 => by simp at h2, fun _ _ => ⟨e3, rfl, beq_eq e5⟩, fun _ h2 => by simp at h2⟩⟩
    · have e1 : R.bind (oper E ih t h o.op) (fun r => Prod.casesOn r fun v h1 => chk (Nat.ble h.next h1.next) 141 (dstK E.strict t o.dst v fun t => sameAgain E ops t h1 pa (k h1 t h1))) = .ok r := e1
      obtain ⟨⟨u, h1⟩, e3, e4⟩ := bind_ok e1
      obtain ⟨e5, e6⟩ := chk_ok e4
      obtain ⟨hd, e7⟩ := dstK_ok (v := u) e6
      obtain ⟨e8, e9⟩ := sameAgain_ok pa e7
      exact ⟨h1, _, h1, u, true, e9, ⟨hd, rfl, hw, by simp, fun _ h2 => by simp at h2, fun _ h2 => by simp at h2, fun _ _ => ⟨e3, rfl, ble_le e5, e8⟩⟩⟩
theorem trace_ok {ops : List Oper} {r : Tm × H} (pl : List Pl) : ∀ {hl : H} {t : Tm} {h : H}, drawF E ih ops pl hl t h = .ok r →
    ∃ (S : Nat → St) (v : Nat → V) (wt : Nat → Bool), S 0 = ⟨hl, t, h⟩ ∧ (S pl.length).t = r.1 ∧ (S pl.length).h = r.2 ∧
      ∀ (k : Nat) (p : Pl), pl[k]? = some p → ∃ o, ops[p.i]? = some o ∧ Stp E ih ops p o (S k) (S (k + 1)) (v k) (wt k) := by
  induction pl with
  | nil => intro hl t h e; cases e; exact ⟨fun _ => ⟨hl, t, h⟩, fun _ => .undef, fun _ => true, rfl, rfl, rfl, by simp⟩
  | cons p pl jh =>
    intro hl t h e
    obtain ⟨o, ho, e1⟩ := opt_ok (x := nth ops p.i) e
    rw [nth_eq] at ho
    obtain ⟨hl1, t1, h1, u, want, e2, hs⟩ := drawOp_ok (k := drawF E ih ops pl) e1
    obtain ⟨S, v, wt, s0, s1, s2, s3⟩ := jh e2
    refine ⟨fun k => match k with | 0 => ⟨hl, t, h⟩ | k + 1 => S k, fun k => match k with | 0 => u | k + 1 => v k, fun k => match k with | 0 => want | k + 1 => wt k, rfl, s1, s2, fun k q hq => ?_⟩
    cases k with
    | zero =>
      simp at hq; subst hq
      refine ⟨o, ho, ?_⟩
      show Stp E ih ops p o ⟨hl, t, h⟩ (S 0) u want
      rw [s0]; exact hs
    | succ k => simp at hq; exact s3 k q hq
end Go.Vint
namespace Go.Vint
variable {P : Program} {E : Env} {φ φ' φ0 : Phi} {D : Nat → Prop} {w w' w0 : World} {h h' h0 : H} {t t' t0 : Tm} {ct : Array Value} {ih : Ih}

/-! ## The machine takes the operations of a drawn region in an order of its own -/
theorem Inv.mix (I : Inv P φ h w) (s : Phi.Same (· < h.next) φ φ') : Inv P φ' h w := by
  have live : ∀ b o, h.get b = some o → b < h.next := I.mem.lt
  refine ⟨⟨fun b o ho => ?_, I.mem.lt, I.mem.nx, fun b b' hb hb' he => ?_⟩, fun b o ho => fineO_same s (fun _ h => h) (I.fine b o ho)⟩
  · have := I.mem.rel b o ho
    rw [(s b (live b o ho)).1]
    exact ORel_same s (live b o ho) (I.fine b o ho) this
  · rw [(s b (I.mem.wlt b hb)).1, (s b' (I.mem.llt b' hb')).1] at he
    exact I.mem.inj b b' hb hb' he
theorem Ext.mix {φ1 : Phi} (X : Ext φ h w φ' h' w') (I : Inv P φ' h' w') (s : Phi.Same (· < h'.next) φ' φ1) : Ext φ h w φ1 h' w' where
  next := X.next
  same := fun b hb => by
    obtain ⟨a1, a2, a3⟩ := X.same b hb
    obtain ⟨b1, b2, b3⟩ := s b (Nat.lt_of_lt_of_le hb X.next)
    exact ⟨b1.trans a1, b2.trans a2, b3.trans a3⟩
  size := X.size
  keep := X.keep
  fresh := fun b hb hw => by rw [(s b (I.mem.wlt b hw)).1]; exact X.fresh b hb hw
  wr := X.wr
  os := X.os
  tape := X.tape
  output := X.output
  lv := X.lv
  born := fun b hb hw => by rw [(s b (I.mem.llt b hw)).1]; exact X.born b hb hw
theorem Ext.reveal {o : O} (X : Ext φ0 h0 w0 φ h w) (hn : h.next < 262144) (hb : w0.heap.size ≤ φ.blk h.next) (_I : Inv P φ h w) : Ext φ0 h0 w0 φ (h.add o) w where
  next := Nat.le_trans X.next (Nat.le_succ _)
  same := X.same
  size := X.size
  keep := X.keep
  fresh := fun b hb' hw => by
    obtain ⟨x, hx, hw⟩ := hw
    rw [H.get_add _ _ _ hn] at hx
    by_cases hbn : b = h.next
    · subst hbn; exact .inl hb
    · rw [if_neg hbn] at hx; exact X.fresh b hb' ⟨x, hx, hw⟩
  wr := fun b hb' hw => by
    obtain ⟨x, hx, hw⟩ := hw
    rw [H.get_add _ _ _ hn, if_neg (by have := X.next; omega)] at hx
    exact X.wr b hb' ⟨x, hx, hw⟩
  os := X.os
  tape := X.tape
  output := X.output
  lv := fun b hb' hw => by
    obtain ⟨x, hx, hw⟩ := hw
    rw [H.get_add _ _ _ hn, if_neg (by have := X.next; omega)] at hx
    exact X.lv b hb' ⟨x, hx, hw⟩
  born := fun b hb' hw => by
    obtain ⟨x, hx, hw⟩ := hw
    rw [H.get_add _ _ _ hn] at hx
    by_cases hbn : b = h.next
    · subst hbn; exact .inl hb
    · rw [if_neg hbn] at hx; exact X.born b hb' ⟨x, hx, hw⟩

/-- the plan and its run -/
structure Tr (E : Env) (ih : Ih) (ops : Array Oper) (M : Nat → Nat) (pl : List Pl) (S : Nat → St) (v : Nat → V) (wt : Nat → Bool) (t0 : Tm) (h0 : H) : Prop where
  plan : Plan ops.toList M pl
  zero : S 0 = ⟨h0, t0, h0⟩
  step : ∀ (k : Nat) (p : Pl), pl[k]? = some p → ∃ o, ops.toList[p.i]? = some o ∧ Stp E ih ops.toList p o (S k) (S (k + 1)) (v k) (wt k)
  wf : ∀ x ∈ t0.env, x.1 < t0.n
section
variable {ops : Array Oper} {M : Nat → Nat} {pl : List Pl} {S : Nat → St} {v : Nat → V} {wt : Nat → Bool} {s0 : Nat} {fr0 : Frame}

theorem get_of_lt {k : Nat} (h : k < pl.length) : ∃ p, pl[k]? = some p := ⟨_, List.getElem?_eq_getElem h⟩
theorem lt_of_some {k : Nat} {p : Pl} (h : pl[k]? = some p) : k < pl.length := by
  rcases Nat.lt_or_ge k pl.length with h1 | h1
  · exact h1
  · rw [List.getElem?_eq_none h1] at h; cases h
theorem put_n (t : Tm) (dst : Option Nat) (u : V) : (t.put dst u).n = t.n := by cases dst <;> rfl
theorem put_at (t : Tm) (dst : Option Nat) (u : V) (i : Nat) : (t.put dst u).at i = if dst = some i then some u else t.at i := by
  cases dst with
  | none => simp [Tm.put]
  | some d =>
    show Tm.at ⟨t.n, t.lv, t.t, (d, u) :: t.env⟩ i = _
    rw [at_put]
    by_cases h : i = d
    · subst h; simp
    · rw [if_neg h, if_neg (by simpa using fun e => h e.symm)]
theorem Tr.n (B : Tr E ih ops M pl S v wt t0 h0) (k : Nat) (hk : k ≤ pl.length) : (S k).t.n = t0.n ∧ ∀ x ∈ (S k).t.env, x.1 < t0.n := by
  induction k with
  | zero => rw [B.zero]; exact ⟨rfl, B.wf⟩
  | succ k jh =>
    obtain ⟨a1, a2⟩ := jh (by omega)
    obtain ⟨p, hp⟩ := get_of_lt (pl := pl) (k := k) (by omega)
    obtain ⟨o, ho, st⟩ := B.step k p hp
    rw [st.t]
    refine ⟨by rw [put_n, a1], fun x hx => ?_⟩
    cases hd : o.dst with
    | none => rw [hd] at hx; exact a2 x hx
    | some d =>
      rw [hd] at hx
      rcases List.mem_cons.1 hx with rfl | hx
      · have := st.dst d hd; rw [a1] at this; exact this
      · exact a2 x hx
theorem Tr.hit (B : Tr E ih ops M pl S v wt t0 h0) {k' : Nat} {p' : Pl} {o' : Oper} {d : Nat} (hp' : pl[k']? = some p') (ho' : ops.toList[p'.i]? = some o') (hd' : o'.dst = some d) (k : Nat) (hlt : k' < k) (hk : k ≤ pl.length) : (S k).t.at d = some (v k') := by
  induction k with
  | zero => omega
  | succ k jh =>
    obtain ⟨p, hp⟩ := get_of_lt (pl := pl) (k := k) (by omega)
    obtain ⟨o, ho, st⟩ := B.step k p hp
    rw [st.t, put_at]
    by_cases he : k' = k
    · subst he
      rw [hp] at hp'; cases hp'
      rw [ho] at ho'; cases ho'
      rw [if_pos hd']
    · have hne : o.dst ≠ some d := by
        intro hd
        have := B.plan.one ho ho' hd hd'
        exact he (B.plan.inj k' k p' p hp' hp this.symm)
      rw [if_neg hne]
      exact jh (by omega) (by omega)
theorem Tr.miss (B : Tr E ih ops M pl S v wt t0 h0) {d : Nat} (k : Nat) (hk : k ≤ pl.length) (hm : ∀ (k' : Nat) (p' : Pl) (o' : Oper), k' < k → pl[k']? = some p' → ops.toList[p'.i]? = some o' → o'.dst ≠ some d) : (S k).t.at d = t0.at d := by
  induction k with
  | zero => rw [B.zero]
  | succ k jh =>
    obtain ⟨p, hp⟩ := get_of_lt (pl := pl) (k := k) (by omega)
    obtain ⟨o, ho, st⟩ := B.step k p hp
    rw [st.t, put_at, if_neg (hm k p o (by omega) hp ho)]
    exact jh (by omega) fun k' p' o' hlt => hm k' p' o' (by omega)
theorem Tr.kind (B : Tr E ih ops M pl S v wt t0 h0) {k : Nat} {p : Pl} (hp : pl[k]? = some p) {o : Oper} (ho : ops.toList[p.i]? = some o) : p.kind = kindOp o.op := by
  obtain ⟨o', ho', hk⟩ := B.plan.kind k p hp
  rw [ho] at ho'; cases ho'; exact hk
theorem Tr.kind_le (B : Tr E ih ops M pl S v wt t0 h0) {k : Nat} {p : Pl} (hp : pl[k]? = some p) : p.kind ≤ 3 := by
  obtain ⟨o', ho', hk⟩ := B.plan.kind k p hp
  rw [hk]; exact kindOp_le _
theorem Tr.next1 (B : Tr E ih ops M pl S v wt t0 h0) {k : Nat} {p : Pl} (hp : pl[k]? = some p) : (S k).h.next ≤ (S (k + 1)).h.next ∧ (wt k = true → p.kind = 2 → (S (k + 1)).h.next = (S k).h.next + 1) := by
  obtain ⟨o, ho, st⟩ := B.step k p hp
  have := B.kind_le hp
  cases hw : wt k with
  | false => rw [(st.off hw).2.2]; exact ⟨Nat.le_refl _, by simp⟩
  | true =>
    rcases (show p.kind ≤ 1 ∨ p.kind = 2 ∨ 3 ≤ p.kind by omega) with h | h | h
    · rw [(st.pure hw h).2.2]; exact ⟨Nat.le_refl _, fun _ h2 => by omega⟩
    · rw [(st.made hw h).2.2]; exact ⟨Nat.le_succ _, fun _ _ => rfl⟩
    · exact ⟨(st.loud hw h).2.2.1, fun _ h2 => by omega⟩
theorem Tr.next (B : Tr E ih ops M pl S v wt t0 h0) {k k' : Nat} (hk : k ≤ k') (hk' : k' ≤ pl.length) : (S k).h.next ≤ (S k').h.next := by
  induction k' with
  | zero => rw [show k = 0 from by omega]; exact Nat.le_refl _
  | succ k' jh =>
    by_cases he : k = k' + 1
    · rw [he]; exact Nat.le_refl _
    · obtain ⟨p, hp⟩ := get_of_lt (pl := pl) (k := k') (by omega)
      exact Nat.le_trans (jh (by omega) (by omega)) (B.next1 hp).1
theorem Tr.nextLt (B : Tr E ih ops M pl S v wt t0 h0) {k k' : Nat} {p : Pl} (hp : pl[k]? = some p) (h2 : p.kind = 2) (hw : wt k = true) (hk : k < k') (hk' : k' ≤ pl.length) : (S k).h.next < (S k').h.next := by
  have := (B.next1 hp).2 hw h2
  have := B.next (k := k + 1) (k' := k') (by omega) hk'
  omega

/-- the blocks that may be told of: those of the last heap, and those made since, up to place m -/
def Dk (S : Nat → St) (pl : List Pl) (wt : Nat → Bool) (C : Nat → Prop) (K m : Nat) (b : Nat) : Prop :=
  b < (S K).h.next ∨ ∃ (k : Nat) (p : Pl), K ≤ k ∧ k < m ∧ pl[k]? = some p ∧ p.kind = 2 ∧ C p.i ∧ wt k = true ∧ b = (S k).h.next
/-- how the machine stands to the plan: C is what the machine has done, K the place behind the last loud operation -/
structure Sim (P : Program) (E : Env) (ops : Array Oper) (M : Nat → Nat) (pl : List Pl) (S : Nat → St) (v : Nat → V) (wt : Nat → Bool) (φ0 : Phi) (h0 : H) (w0 : World) (t0 : Tm) (s0 : Nat) (fr0 : Frame)
    (C : Nat → Prop) (K : Nat) (φ : Phi) (w : World) (fr : Frame) : Prop where
  top : K ≤ pl.length
  lt : ∀ i, C i → i < ops.toList.length
  closed : ∀ i, C i → ∀ j, bit (M i) j = true → C j
  hl : (S K).hl = (S K).h
  past : ∀ (k : Nat) (p : Pl), k < K → pl[k]? = some p → p.kind = 2 ∨ p.kind = 3 → C p.i
  still : ∀ (k : Nat) (p : Pl), K ≤ k → pl[k]? = some p → p.kind = 3 → C p.i → wt k = false
  again : ∀ (k : Nat) (p : Pl), k < K → pl[k]? = some p → p.kind = 1 → ¬ C p.i → Again E ops.toList (S K).t (S K).h p.i
  inv : Inv P φ (S K).h w
  ext : Ext φ0 h0 w0 φ (S K).h w
  tmps : ∀ (k : Nat) (p : Pl) (o : Oper) (d : Nat), pl[k]? = some p → C p.i → ops.toList[p.i]? = some o → o.dst = some d → fr.tmps.getD d undef = conc φ (v k)
  old : ∀ d, (∀ (i : Nat) (o : Oper), C i → ops.toList[i]? = some o → o.dst ≠ some d) → ∀ u, t0.at d = some u → fr.tmps.getD d undef = conc φ u
  size : fr.tmps.size = t0.n
  fine : ∀ (k : Nat) (p : Pl), pl[k]? = some p → C p.i → fineV φ (Dk S pl wt C K (k + 1)) (v k)
  made : ∀ (k : Nat) (p : Pl), K ≤ k → pl[k]? = some p → p.kind = 2 → C p.i → wt k = true → ∃ cs el, (S k).h.next < 262144 ∧ (S (k + 1)).h = (S k).h.add (.cells cs el false 0 0) ∧ fineL φ (Dk S pl wt C K k) cs ∧
    w.heap[φ.blk (S k).h.next]? = some (.cells (concL φ cs).toArray el) ∧ φ.off (S k).h.next = 0 ∧ w0.heap.size ≤ φ.blk (S k).h.next ∧ ∀ b, Live (S K).h b → φ.blk b ≠ φ.blk (S k).h.next
  apart : ∀ (k k' : Nat) (p p' : Pl), K ≤ k → K ≤ k' → pl[k]? = some p → pl[k']? = some p' → p.kind = 2 → p'.kind = 2 → C p.i → C p'.i → wt k = true → wt k' = true → φ.blk (S k).h.next = φ.blk (S k').h.next → k = k'
  frame : sameFr fr0 fr
  marks : Marks w s0 fr.defers
  base : s0 ≤ w.heap.size

variable {C : Nat → Prop} {K : Nat} {fr : Frame}
theorem Dk.mono {C' : Nat → Prop} {m m' b : Nat} (hC : ∀ i, C i → C' i) (hm : m ≤ m') (hd : Dk S pl wt C K m b) : Dk S pl wt C' K m' b := by
  rcases hd with h | ⟨k, p, a1, a2, a3, a4, a5, a6, a7⟩
  · exact .inl h
  · exact .inr ⟨k, p, a1, by omega, a3, a4, hC _ a5, a6, a7⟩
theorem Dk.lt (B : Tr E ih ops M pl S v wt t0 h0) {m b : Nat} (hK : K ≤ m) (hm : m ≤ pl.length) (hd : Dk S pl wt C K m b) : b < (S m).h.next := by
  rcases hd with h | ⟨k, p, a1, a2, a3, a4, a5, a6, rfl⟩
  · exact Nat.lt_of_lt_of_le h (B.next hK hm)
  · exact B.nextLt a3 a4 a6 a2 hm

/-- what the plan's temporaries tell of the machine's -/
theorem Sim.view (B : Tr E ih ops M pl S v wt t0 h0) (F0 : Fr φ0 h0 w0 s0 t0 fr0) (σ : Sim P E ops M pl S v wt φ0 h0 w0 t0 s0 fr0 C K φ w fr) {U : List Nat} {m : Nat} (hm : m ≤ pl.length)
    (hD1 : ∀ b, b < h0.next → D b) (hD2 : ∀ (k : Nat) (p : Pl), k < m → pl[k]? = some p → C p.i → (∃ o d, ops.toList[p.i]? = some o ∧ o.dst = some d ∧ d ∈ U) → fineV φ D (v k))
    (hU : ∀ d ∈ U, ∀ (k : Nat) (p : Pl) (o : Oper), pl[k]? = some p → ops.toList[p.i]? = some o → o.dst = some d → (C p.i ∧ k < m) ∨ (¬ C p.i ∧ m ≤ k)) :
    TRel φ ((S m).t.only U) fr.tmps ∧ fineT φ D ((S m).t.only U) := by
  obtain ⟨n1, n2⟩ := B.n m hm
  have key : ∀ i u, ((S m).t.only U).at i = some u → fr.tmps.getD i undef = conc φ u ∧ fineV φ D u := by
    intro i u hu
    rw [only_at] at hu
    by_cases hi : i ∈ U
    · rw [if_pos hi] at hu
      by_cases hw : ∃ (k : Nat) (p : Pl) (o : Oper), k < m ∧ pl[k]? = some p ∧ ops.toList[p.i]? = some o ∧ o.dst = some i
      · obtain ⟨k, p, o, a1, a2, a3, a4⟩ := hw
        rw [B.hit a2 a3 a4 m a1 hm] at hu
        cases hu
        have hc : C p.i := by
          rcases hU i hi k p o a2 a3 a4 with h | h
          · exact h.1
          · omega
        exact ⟨σ.tmps k p o i a2 hc a3 a4, hD2 k p a1 a2 hc ⟨o, i, a3, a4, hi⟩⟩
      · rw [B.miss m hm (fun k' p' o' hlt hp' ho' hd => hw ⟨k', p', o', hlt, hp', ho', hd⟩)] at hu
        refine ⟨σ.old i (fun x o hx ho hd => ?_) u hu, ?_⟩
        · obtain ⟨k, p, hp, rfl⟩ := B.plan.all x (σ.lt x hx)
          rcases hU i hi k p o hp ho hd with h | h
          · exact hw ⟨k, p, o, h.2, hp, ho, hd⟩
          · exact h.1 hx
        · exact fine_same σ.ext.same hD1 u (F0.fine i u hu)
    · rw [if_neg hi] at hu; cases hu
  exact ⟨⟨by rw [σ.size]; exact n1.symm, by show (S m).t.n ≤ 1024; rw [n1]; exact F0.rel.small, only_wf (by rw [n1]; exact n2) U, fun i u hu => (key i u hu).1⟩, fun i u hu => (key i u hu).2⟩
end
end Go.Vint
namespace Go.Vint
variable {P : Program} {E : Env} {φ φ' φ0 : Phi} {D : Nat → Prop} {w w' w0 : World} {h h' h0 : H} {t t' t0 : Tm} {ct : Array Value} {ih : Ih}
section
variable {ops : Array Oper} {M : Nat → Nat} {pl : List Pl} {S : Nat → St} {v : Nat → V} {wt : Nat → Bool} {s0 : Nat} {fr0 : Frame} {C : Nat → Prop} {K : Nat} {fr : Frame}

/-- from the last heap on to place m: the blocks made since are told of -/
theorem Sim.advance (B : Tr E ih ops M pl S v wt t0 h0) (σ : Sim P E ops M pl S v wt φ0 h0 w0 t0 s0 fr0 C K φ w fr) (m : Nat) (hK : K ≤ m) (hm : m ≤ pl.length)
    (hC : ∀ (k : Nat) (p : Pl), K ≤ k → k < m → pl[k]? = some p → p.kind = 2 ∨ p.kind = 3 → C p.i) :
    Inv P φ (S m).h w ∧ Ext φ0 h0 w0 φ (S m).h w ∧ ∀ (k : Nat) (p : Pl), m ≤ k → pl[k]? = some p → p.kind = 2 → C p.i → wt k = true → ∀ b, Live (S m).h b → φ.blk b ≠ φ.blk (S k).h.next := by
  induction m with
  | zero =>
    rw [show K = 0 from by omega] at σ
    exact ⟨σ.inv, σ.ext, fun k p h1 h2 h3 h4 h5 => by obtain ⟨_, _, _, _, _, _, _, _, h⟩ := σ.made k p h1 h2 h3 h4 h5; exact h⟩
  | succ m jh =>
    by_cases he : K = m + 1
    · subst he
      exact ⟨σ.inv, σ.ext, fun k p h1 h2 h3 h4 h5 => by obtain ⟨_, _, _, _, _, _, _, _, h⟩ := σ.made k p h1 h2 h3 h4 h5; exact h⟩
    · obtain ⟨I, X, hl⟩ := jh (by omega) (by omega) fun k p h1 h2 => hC k p h1 (by omega)
      obtain ⟨p, hp⟩ := get_of_lt (pl := pl) (k := m) (by omega)
      obtain ⟨o, ho, st⟩ := B.step m p hp
      have same : (S (m + 1)).h = (S m).h → Inv P φ (S (m + 1)).h w ∧ Ext φ0 h0 w0 φ (S (m + 1)).h w ∧ ∀ (k : Nat) (p : Pl), m + 1 ≤ k → pl[k]? = some p → p.kind = 2 → C p.i → wt k = true → ∀ b, Live (S (m + 1)).h b → φ.blk b ≠ φ.blk (S k).h.next := by
        intro e
        rw [e]
        exact ⟨I, X, fun k q h1 => hl k q (by omega)⟩
      have hk := B.kind_le hp
      cases hw : wt m with
      | false => exact same (st.off hw).2.2
      | true =>
        rcases (show p.kind ≤ 1 ∨ p.kind = 2 ∨ p.kind = 3 by omega) with h | h | h
        · exact same (st.pure hw h).2.2
        · have hc := hC m p (by omega) (by omega) hp (.inl h)
          obtain ⟨cs, el, c1, c2, c3, c4, c5, c6, _⟩ := σ.made m p (by omega) hp h hc hw
          rw [c2]
          have c3' : fineL φ (· < (S m).h.next) cs := fineL_same (Phi.Same.refl _ φ) (fun b hb => hb.lt B (by omega) (by omega)) cs c3
          refine ⟨I.reveal c1 c3' c4 c5 (hl m p (by omega) hp h hc hw), X.reveal c1 c6 I, fun k q h1 h2 h3 h4 h5 b hb => ?_⟩
          obtain ⟨x, hx, hd⟩ := hb
          rw [H.get_add _ _ _ c1] at hx
          by_cases hbn : b = (S m).h.next
          · subst hbn
            intro e
            have := σ.apart m k p q (by omega) (by omega) hp h2 h h3 hc h4 hw h5 e
            omega
          · rw [if_neg hbn] at hx
            exact hl k q (by omega) h2 h3 h4 h5 b ⟨x, hx, hd⟩
        · have hc := hC m p (by omega) (by omega) hp (.inr h)
          have := σ.still m p (by omega) hp h hc
          rw [hw] at this; cases this
theorem Sim.hlSame (B : Tr E ih ops M pl S v wt t0 h0) (σ : Sim P E ops M pl S v wt φ0 h0 w0 t0 s0 fr0 C K φ w fr) (m : Nat) (hK : K ≤ m) (hm : m ≤ pl.length)
    (hC : ∀ (k : Nat) (p : Pl), K ≤ k → k < m → pl[k]? = some p → p.kind = 3 → C p.i) : (S m).hl = (S K).h := by
  induction m with
  | zero => rw [show K = 0 from by omega] at σ ⊢; exact σ.hl
  | succ m jh =>
    by_cases he : K = m + 1
    · subst he; exact σ.hl
    · have e := jh (by omega) (by omega) fun k p h1 h2 => hC k p h1 (by omega)
      obtain ⟨p, hp⟩ := get_of_lt (pl := pl) (k := m) (by omega)
      obtain ⟨o, ho, st⟩ := B.step m p hp
      have hk := B.kind_le hp
      cases hw : wt m with
      | false => rw [(st.off hw).2.1]; exact e
      | true =>
        rcases (show p.kind ≤ 1 ∨ p.kind = 2 ∨ p.kind = 3 by omega) with h | h | h
        · rw [(st.pure hw h).2.1]; exact e
        · rw [(st.made hw h).2.1]; exact e
        · have hc := hC m p (by omega) (by omega) hp h
          have := σ.still m p (by omega) hp h hc
          rw [hw] at this; cases this

def also (C : Nat → Prop) (x i : Nat) : Prop := C i ∨ i = x
/-- the frame behind an operation -/
theorem putD_tmps (fr : Frame) (dst : Option Nat) (x : Value) (d : Nat) (hd : ∀ d, dst = some d → d < fr.tmps.size) : (putD fr dst x).tmps.getD d undef = if dst = some d then x else fr.tmps.getD d undef := by
  cases dst with
  | none => simp [putD]
  | some d' =>
    show (fr.tmps.setIfInBounds d' x).getD d undef = _
    rw [getD_set _ _ _ _ (hd d' rfl)]
    by_cases h : d = d'
    · subst h; simp
    · rw [if_neg h, if_neg (by simpa using fun e => h e.symm)]
theorem putD_size (fr : Frame) (dst : Option Nat) (x : Value) : (putD fr dst x).tmps.size = fr.tmps.size := by
  cases dst with
  | none => rfl
  | some d => show (fr.tmps.setIfInBounds d x).size = _; simp

/-- the temporaries behind an operation of the machine -/
theorem Sim.put_tmps (B : Tr E ih ops M pl S v wt t0 h0) (σ : Sim P E ops M pl S v wt φ0 h0 w0 t0 s0 fr0 C K φ w fr) {k : Nat} {p : Pl} {o : Oper} (hp : pl[k]? = some p) (ho : ops.toList[p.i]? = some o) (_hx : ¬ C p.i)
    (hs : Phi.Same (Dk S pl wt C K pl.length) φ φ') (h0K : h0.next ≤ (S K).h.next) (hf0 : fineT φ (· < h0.next) t0) :
    (∀ (k' : Nat) (p' : Pl) (o' : Oper) (d : Nat), pl[k']? = some p' → also C p.i p'.i → ops.toList[p'.i]? = some o' → o'.dst = some d → (putD fr o.dst (conc φ' (v k))).tmps.getD d undef = conc φ' (v k')) ∧
    (∀ d, (∀ (i : Nat) (o' : Oper), also C p.i i → ops.toList[i]? = some o' → o'.dst ≠ some d) → ∀ u, t0.at d = some u → (putD fr o.dst (conc φ' (v k))).tmps.getD d undef = conc φ' u) ∧
    (putD fr o.dst (conc φ' (v k))).tmps.size = t0.n := by
  obtain ⟨o2, ho2, st⟩ := B.step k p hp
  rw [ho] at ho2; cases ho2
  have hd : ∀ d, o.dst = some d → d < fr.tmps.size := fun d hd => by
    have := st.dst d hd
    rw [(B.n k (Nat.le_of_lt (lt_of_some hp))).1] at this
    rw [σ.size]; exact this
  refine ⟨fun k' p' o' d hp' hc ho' hd' => ?_, fun d hn u hu => ?_, by rw [putD_size]; exact σ.size⟩
  · rw [putD_tmps _ _ _ _ hd]
    by_cases he : o.dst = some d
    · rw [if_pos he]
      have := B.plan.one ho ho' he hd'
      rw [B.plan.inj k k' p p' hp hp' this]
    · rw [if_neg he]
      rcases hc with hc | hc
      · rw [σ.tmps k' p' o' d hp' hc ho' hd']
        refine (conc_same hs (v k') (fine_same (Phi.Same.refl _ φ) (fun b hb => ?_) _ (σ.fine k' p' hp' hc))).symm
        exact Dk.mono (fun _ h => h) (lt_of_some hp') hb
      · rw [hc, ho] at ho'; cases ho'; exact absurd hd' he
  · rw [putD_tmps _ _ _ _ hd, if_neg (hn p.i o (.inr rfl) ho)]
    rw [σ.old d (fun i o' hi => hn i o' (.inl hi)) u hu]
    exact (conc_same hs u (fine_same (Phi.Same.refl _ φ) (fun b hb => .inl (Nat.lt_of_lt_of_le hb h0K)) u (hf0 d u hu))).symm

/-- an operation of the machine that turns no block -/
theorem Sim.quiet (B : Tr E ih ops M pl S v wt t0 h0) (F0 : Fr φ0 h0 w0 s0 t0 fr0) (σ : Sim P E ops M pl S v wt φ0 h0 w0 t0 s0 fr0 C K φ w fr) {k : Nat} {p : Pl} {o : Oper} (hp : pl[k]? = some p) (ho : ops.toList[p.i]? = some o) (hx : ¬ C p.i)
    (hm : ∀ j, bit (M p.i) j = true → C j) (hf : fineV φ (Dk S pl wt C K k) (v k)) (hk : wt k = false ∨ p.kind ≤ 1) :
    Sim P E ops M pl S v wt φ0 h0 w0 t0 s0 fr0 (also C p.i) K φ w (putD fr o.dst (conc φ (v k))) := by
  have hf0 : fineT φ (· < h0.next) t0 := fineT_same σ.ext.same (fun _ h => h) F0.fine
  obtain ⟨t1, t2, t3⟩ := σ.put_tmps (φ' := φ) B hp ho hx (Phi.Same.refl _ φ) σ.ext.next hf0
  have only : ∀ (k' : Nat) (p' : Pl), pl[k']? = some p' → also C p.i p'.i → p'.kind = 2 ∨ p'.kind = 3 → wt k' = true → C p'.i := by
    intro k' p' hp' hc h2 hw
    rcases hc with hc | hc
    · exact hc
    · have := B.plan.inj k' k p' p hp' hp hc
      subst this
      rw [hp] at hp'; cases hp'
      rcases hk with h | h
      · rw [hw] at h; cases h
      · omega
  refine ⟨σ.top, ?_, ?_, σ.hl, fun k' p' h1 h2 h3 => .inl (σ.past k' p' h1 h2 h3), ?_, fun k' p' h1 h2 h3 h4 => σ.again k' p' h1 h2 h3 fun h => h4 (.inl h), σ.inv, σ.ext, t1, t2, t3, ?_, ?_, ?_, σ.frame.trans (putD_same _ _ _), by rw [putD_defers]; exact σ.marks, σ.base⟩
  · rintro i (h | h)
    · exact σ.lt i h
    · rw [h]
      rcases Nat.lt_or_ge p.i ops.toList.length with h1 | h1
      · exact h1
      · rw [List.getElem?_eq_none h1] at ho; cases ho
  · rintro i (h | h) j hj
    · exact .inl (σ.closed i h j hj)
    · rw [h] at hj; exact .inl (hm j hj)
  · intro k' p' h1 h2 h3 h4
    cases hw : wt k' with
    | false => rfl
    | true =>
      have := σ.still k' p' h1 h2 h3 (only k' p' h2 h4 (.inr h3) hw)
      rw [hw] at this; exact this
  · intro k' p' hp' hc
    rcases hc with hc | hc
    · exact fine_same (Phi.Same.refl _ φ) (fun b hb => Dk.mono (fun _ h => .inl h) (Nat.le_refl _) hb) _ (σ.fine k' p' hp' hc)
    · have := B.plan.inj k' k p' p hp' hp hc
      subst this
      exact fine_same (Phi.Same.refl _ φ) (fun b hb => Dk.mono (fun _ h => .inl h) (Nat.le_succ _) hb) _ hf
  · intro k' p' h1 h2 h3 h4 h5
    obtain ⟨cs, el, c1, c2, c3, c4⟩ := σ.made k' p' h1 h2 h3 (only k' p' h2 h4 (.inl h3) h5) h5
    exact ⟨cs, el, c1, c2, fineL_same (Phi.Same.refl _ φ) (fun b hb => Dk.mono (fun _ h => .inl h) (Nat.le_refl _) hb) _ c3, c4⟩
  · intro k1 k2 p1 p2 a1 a2 a3 a4 a5 a6 a7 a8 a9 a10
    exact σ.apart k1 k2 p1 p2 a1 a2 a3 a4 a5 a6 (only k1 p1 a3 a7 (.inl a5) a9) (only k2 p2 a4 a8 (.inl a6) a10) a9 a10
end
end Go.Vint
namespace Go.Vint
variable {P : Program} {E : Env} {φ φ' φ0 : Phi} {D D' : Nat → Prop} {w w' w0 : World} {h h' h0 : H} {t t' t0 : Tm} {ct : Array Value} {ih : Ih}
theorem Phi.Same.sub (s : Phi.Same D' φ φ') (h : ∀ b, D b → D' b) : Phi.Same D φ φ' := fun b hb => s b (h b hb)
section
variable {ops : Array Oper} {M : Nat → Nat} {pl : List Pl} {S : Nat → St} {v : Nat → V} {wt : Nat → Bool} {s0 : Nat} {fr0 : Frame} {C : Nat → Prop} {K : Nat} {fr : Frame}

theorem Sim.alloc (B : Tr E ih ops M pl S v wt t0 h0) (I0 : Inv P φ0 h0 w0) (F0 : Fr φ0 h0 w0 s0 t0 fr0) (hT : TysOk P E) (σ : Sim P E ops M pl S v wt φ0 h0 w0 t0 s0 fr0 C K φ w fr) {k : Nat} {p : Pl} {o : Oper} (hp : pl[k]? = some p) (ho : ops.toList[p.i]? = some o) (hx : ¬ C p.i)
    (hm : ∀ j, bit (M p.i) j = true → C j) (h2 : p.kind = 2) (hw : wt k = true) (hK : K ≤ k) {T : Tm} (hv : TRel φ T fr.tmps) (hfv : fineT φ (Dk S pl wt C K k) T) (e : op1 E T (S k).h o.op = .ok (v k, (S (k + 1)).h)) :
    ∃ φ' w', Sim P E ops M pl S v wt φ0 h0 w0 t0 s0 fr0 (also C p.i) K φ' w' (putD fr o.dst (conc φ' (v k))) ∧ Runs P (execOp (rho fr.tmps) o) w (.value (conc φ' (v k))) w' := by
  have hkl := lt_of_some hp
  obtain ⟨cs, el, hn, hh, hcs, hvk, hrun⟩ := op2_new (w := w) hT hv hfv o (by rw [← B.kind hp ho]; exact h2) e
  have hs : Phi.Same (Dk S pl wt C K pl.length) φ (φ.up (S k).h.next w.heap.size 0 0) := by
    intro b hb
    have hne : b ≠ (S k).h.next := by
      rcases hb with hb | ⟨k', p', a1, a2, a3, a4, a5, a6, rfl⟩
      · have := B.next hK (Nat.le_of_lt hkl); omega
      · have hkk : k' ≠ k := by rintro rfl; rw [hp] at a3; cases a3; exact hx a5
        rcases Nat.lt_or_ge k' k with h | h
        · exact Nat.ne_of_lt (B.nextLt a3 a4 a6 h (Nat.le_of_lt hkl))
        · exact Nat.ne_of_gt (B.nextLt hp h2 hw (by omega) (Nat.le_of_lt a2))
    simp [Phi.up, hne]
  have hnew : (φ.up (S k).h.next w.heap.size 0 0).blk (S k).h.next = w.heap.size := by simp [Phi.up]
  have hoff : (φ.up (S k).h.next w.heap.size 0 0).off (S k).h.next = 0 := by simp [Phi.up]
  have hrun := hrun _ hnew hoff
  obtain ⟨X, I⟩ := Inv.pushRaw σ.inv (.cells (concL φ cs).toArray el)
  have hsK : Phi.Same (· < (S K).h.next) φ (φ.up (S k).h.next w.heap.size 0 0) := hs.sub fun b hb => .inl hb
  have hf0 : fineT φ (· < h0.next) t0 := fineT_same σ.ext.same (fun _ h => h) F0.fine
  obtain ⟨t1, t2, t3⟩ := σ.put_tmps B hp ho hx hs σ.ext.next hf0
  revert hs hnew hoff hrun hsK t1 t2 t3
  generalize (φ.up (S k).h.next w.heap.size 0 0) = φ'
  intro hs hnew hoff hrun hsK t1 t2 t3
  have inD : ∀ (k' : Nat) (p' : Pl), K ≤ k' → pl[k']? = some p' → p'.kind = 2 → C p'.i → wt k' = true → Dk S pl wt C K pl.length (S k').h.next := fun k' p' a1 a2 a3 a4 a5 => .inr ⟨k', p', a1, lt_of_some a2, a2, a3, a4, a5, rfl⟩
  have pos : ∀ (k' : Nat) (p' : Pl), pl[k']? = some p' → p'.i = p.i → k' = k ∧ p' = p := by
    intro k' p' hp' e
    have := B.plan.inj k' k p' p hp' hp e
    subst this
    rw [hp] at hp'; cases hp'; exact ⟨rfl, rfl⟩
  refine ⟨φ', push w (.cells (concL φ cs).toArray el), ⟨σ.top, ?_, ?_, σ.hl, fun k' p' h1 h2 h3 => .inl (σ.past k' p' h1 h2 h3), ?_, fun k' p' h1 h2 h3 h4 => σ.again k' p' h1 h2 h3 fun h => h4 (.inl h), I.mix hsK, Ext.trans I0.mem.llt σ.ext (X.mix I hsK), t1, t2, t3, ?_, ?_, ?_, σ.frame.trans (putD_same _ _ _), ?_, ?_⟩, hrun⟩
  · rintro i (h | h)
    · exact σ.lt i h
    · rw [h]
      rcases Nat.lt_or_ge p.i ops.toList.length with h1 | h1
      · exact h1
      · rw [List.getElem?_eq_none h1] at ho; cases ho
  · rintro i (h | h) j hj
    · exact .inl (σ.closed i h j hj)
    · rw [h] at hj; exact .inl (hm j hj)
  · intro k' p' h1 h2' h3 h4
    rcases h4 with h4 | h4
    · exact σ.still k' p' h1 h2' h3 h4
    · obtain ⟨rfl, rfl⟩ := pos k' p' h2' h4; omega
  · intro k' p' hp' hc
    rcases hc with hc | hc
    · refine fine_same (φ' := φ') (hs.sub (D := Dk S pl wt C K (k' + 1)) fun b hb => Dk.mono (fun _ h => h) (lt_of_some hp') hb) (fun b hb => Dk.mono (fun _ h => .inl h) (Nat.le_refl _) hb) _ (σ.fine k' p' hp' hc)
    · obtain ⟨rfl, rfl⟩ := pos k' p' hp' hc
      have hd : Dk S pl wt (also C p'.i) K (k' + 1) (S k').h.next := .inr ⟨k', p', hK, Nat.lt_succ_self _, hp', h2, .inr rfl, hw, rfl⟩
      rcases hvk with h | ⟨n, h⟩
      · rw [h]; simp only [fineV]; exact hd
      · rw [h]; simp only [fineV]; exact hd
  · intro k' p' a1 a2 a3 a4 a5
    rcases a4 with a4 | a4
    · obtain ⟨cs', el', c1, c2, c3, c4, c5, c6, c7⟩ := σ.made k' p' a1 a2 a3 a4 a5
      obtain ⟨b1, b2, _⟩ := hs _ (inD k' p' a1 a2 a3 a4 a5)
      have sc := hs.sub (D := Dk S pl wt C K k') fun b hb => Dk.mono (fun _ h => h) (Nat.le_of_lt (lt_of_some a2)) hb
      refine ⟨cs', el', c1, c2, fineL_same sc (fun b hb => Dk.mono (fun _ h => .inl h) (Nat.le_refl _) hb) _ c3, ?_, b2.trans c5, by rw [b1]; exact c6, fun b hb => ?_⟩
      · rw [b1, push_get, if_neg (Nat.ne_of_lt (lt_of_get c4)), concL_same sc _ c3]
        exact c4
      · rw [b1, (hsK b (σ.inv.mem.llt b hb)).1]; exact c7 b hb
    · obtain ⟨rfl, rfl⟩ := pos k' p' a2 a4
      have sc := hs.sub (D := Dk S pl wt C K k') fun b hb => Dk.mono (fun _ h => h) (Nat.le_of_lt hkl) hb
      refine ⟨cs, el, hn, hh, fineL_same sc (fun b hb => Dk.mono (fun _ h => .inl h) (Nat.le_refl _) hb) _ hcs, ?_, hoff, by rw [hnew]; exact σ.ext.size, fun b hb => ?_⟩
      · rw [hnew, push_get, if_pos rfl, concL_same sc _ hcs]
      · rw [hnew, (hsK b (σ.inv.mem.llt b hb)).1]
        obtain ⟨x, hx1, hx2⟩ := hb
        exact Nat.ne_of_lt (σ.inv.mem.inHeap hx1 hx2)
  · intro k1 k2 p1 p2 a1 a2 a3 a4 a5 a6 a7 a8 a9 a10 he
    have old : ∀ (k' : Nat) (p' : Pl), K ≤ k' → pl[k']? = some p' → p'.kind = 2 → C p'.i → wt k' = true → φ'.blk (S k').h.next = φ.blk (S k').h.next ∧ φ.blk (S k').h.next < w.heap.size := by
      intro k' p' b1 b2 b3 b4 b5
      obtain ⟨_, _, _, _, _, c4, _⟩ := σ.made k' p' b1 b2 b3 b4 b5
      exact ⟨(hs _ (inD k' p' b1 b2 b3 b4 b5)).1, lt_of_get c4⟩
    rcases a7 with a7 | a7
    · obtain ⟨d1, d2⟩ := old k1 p1 a1 a3 a5 a7 a9
      rcases a8 with a8 | a8
      · obtain ⟨e1, e2⟩ := old k2 p2 a2 a4 a6 a8 a10
        rw [d1, e1] at he
        exact σ.apart k1 k2 p1 p2 a1 a2 a3 a4 a5 a6 a7 a8 a9 a10 he
      · obtain ⟨rfl, rfl⟩ := pos k2 p2 a4 a8
        rw [d1, hnew] at he; omega
    · obtain ⟨rfl, rfl⟩ := pos k1 p1 a3 a7
      rcases a8 with a8 | a8
      · obtain ⟨e1, e2⟩ := old k2 p2 a2 a4 a6 a8 a10
        rw [hnew, e1] at he; omega
      · exact (pos k2 p2 a4 a8).1.symm
  · rw [putD_defers]; exact σ.marks.ext σ.inv.mem X
  · rw [push_size]; have := σ.base; omega

theorem Sim.loud (B : Tr E ih ops M pl S v wt t0 h0) (I0 : Inv P φ0 h0 w0) (F0 : Fr φ0 h0 w0 s0 t0 fr0) (hT : TysOk P E) (hV : Views P E) (hcall : SoundCall P ih.call) (σ : Sim P E ops M pl S v wt φ0 h0 w0 t0 s0 fr0 C K φ w fr) {k : Nat} {p : Pl} {o : Oper} (hp : pl[k]? = some p) (ho : ops.toList[p.i]? = some o) (hx : ¬ C p.i)
    (hm : ∀ j, bit (M p.i) j = true → C j) (h3 : p.kind = 3) (hw : wt k = true) (hK : K ≤ k) {T : Tm} (hv : TRel φ T fr.tmps) (hfv : fineT φ (Dk S pl wt C K k) T) (e : oper E ih T (S k).h o.op = .ok (v k, (S (k + 1)).h))
    (hag : (S (k + 1)).hl = (S (k + 1)).h ∧ ∀ i ∈ p.again, Again E ops.toList (S (k + 1)).t (S (k + 1)).h i) {rest : List Nat} {kk : List Item} {cs : List Frame} (hwn : Region.wanted o (yielded ops fr.tmps) = true) (hoA : ops[p.i]? = some o) :
    ∃ φ' w', Sim P E ops M pl S v wt φ0 h0 w0 t0 s0 fr0 (also C p.i) (k + 1) φ' w' (putD fr o.dst (conc φ' (v k))) ∧
      Steps P (lone (onTodo fr (.inRegion ops (p.i :: rest) :: kk)) cs w) (lone (onTodo (putD fr o.dst (conc φ' (v k))) (.inRegion ops rest :: kk)) cs w') := by
  have hkl := lt_of_some hp
  have ahead : ∀ (k' : Nat) (p' : Pl), K ≤ k' → k' < k → pl[k']? = some p' → p'.kind = 2 ∨ p'.kind = 3 → C p'.i := by
    intro k' p' a1 a2 a3 a4
    rcases a4 with a4 | a4
    · exact hm _ (B.plan.made k k' p p' a2 hp a3 a4 h3)
    · exact hm _ (B.plan.loud k k' p p' a2 hp a3 a4 (.inr h3))
  obtain ⟨I1, X1, L1⟩ := σ.advance B k hK (Nat.le_of_lt hkl) ahead
  have hfv1 : fineT φ (· < (S k).h.next) T := fun i u hu => fine_same (Phi.Same.refl _ φ) (fun b hb => Dk.lt B hK (Nat.le_of_lt hkl) hb) u (hfv i u hu)
  obtain ⟨φ1, w1, X, I, hfu, hst⟩ := oper_gives hT hV hcall I1 hv hfv1 o e (asks_op (k := kk) (cs := cs) (rest := rest) hoA hwn (oper_noDefer e))
  rw [finish_on, hoA] at hst
  have hst : Steps P (lone (onTodo fr (.inRegion ops (p.i :: rest) :: kk)) cs w) (lone (onTodo (putD fr o.dst (conc φ1 (v k))) (.inRegion ops rest :: kk)) cs w1) := hst
  have hnx : (S k).h.next ≤ (S (k + 1)).h.next := X.next
  let φ' : Phi := ⟨fun b => if b < (S (k + 1)).h.next then φ1.blk b else φ.blk b, fun b => if b < (S (k + 1)).h.next then φ1.off b else φ.off b, fun b => if b < (S (k + 1)).h.next then φ1.K b else φ.K b⟩
  have s1 : Phi.Same (· < (S (k + 1)).h.next) φ1 φ' := fun b hb => by simp only [φ']; simp [hb]
  have hi : ∀ b, ¬ b < (S (k + 1)).h.next → φ'.blk b = φ.blk b ∧ φ'.off b = φ.off b ∧ φ'.K b = φ.K b := fun b hb => by simp only [φ']; simp [hb]
  clear_value φ'
  have hs : Phi.Same (Dk S pl wt C K pl.length) φ φ' := by
    intro b hb
    have low : b < (S k).h.next → φ'.blk b = φ.blk b ∧ φ'.off b = φ.off b ∧ φ'.K b = φ.K b := by
      intro hb
      obtain ⟨a1, a2, a3⟩ := X.same b hb
      obtain ⟨b1, b2, b3⟩ := s1 b (by omega)
      exact ⟨b1.trans a1, b2.trans a2, b3.trans a3⟩
    rcases hb with hb | ⟨k', p', a1, a2, a3, a4, a5, a6, rfl⟩
    · exact low (Nat.lt_of_lt_of_le hb (B.next hK (Nat.le_of_lt hkl)))
    · rcases Nat.lt_or_ge k' k with h | h
      · exact low (B.nextLt a3 a4 a6 h (Nat.le_of_lt hkl))
      · have hne : k' ≠ k := by rintro rfl; rw [hp] at a3; cases a3; omega
        exact hi _ (Nat.not_lt.2 (B.next (k := k + 1) (k' := k') (by omega) (Nat.le_of_lt a2)))
  have ev : conc φ' (v k) = conc φ1 (v k) := conc_same s1 _ hfu
  rw [← ev] at hst
  have X' := X.mix I s1
  have I' := I.mix s1
  have hf0 : fineT φ (· < h0.next) t0 := fineT_same σ.ext.same (fun _ h => h) F0.fine
  obtain ⟨t1, t2, t3⟩ := σ.put_tmps B hp ho hx hs σ.ext.next hf0
  have pos : ∀ (k' : Nat) (p' : Pl), pl[k']? = some p' → p'.i = p.i → k' = k ∧ p' = p := by
    intro k' p' hp' e
    have := B.plan.inj k' k p' p hp' hp e
    subst this
    rw [hp] at hp'; cases hp'; exact ⟨rfl, rfl⟩
  have later : ∀ (k' : Nat) (p' : Pl), k + 1 ≤ k' → pl[k']? = some p' → also C p.i p'.i → C p'.i := by
    intro k' p' a1 a2 a3
    rcases a3 with a3 | a3
    · exact a3
    · have := (pos k' p' a2 a3).1; omega
  have dk : ∀ (m b : Nat), m ≤ pl.length → Dk S pl wt C K m b → Dk S pl wt (also C p.i) (k + 1) m b := by
    intro m b hm' hb
    rcases hb with hb | ⟨k', p', a1, a2, a3, a4, a5, a6, rfl⟩
    · exact .inl (Nat.lt_of_lt_of_le hb (B.next (by omega) hkl))
    · rcases Nat.lt_or_ge k' (k + 1) with h | h
      · exact .inl (B.nextLt a3 a4 a6 h hkl)
      · exact .inr ⟨k', p', h, a2, a3, a4, .inl a5, a6, rfl⟩
  have inD : ∀ (k' : Nat) (p' : Pl), K ≤ k' → pl[k']? = some p' → p'.kind = 2 → C p'.i → wt k' = true → Dk S pl wt C K pl.length (S k').h.next := fun k' p' a1 a2 a3 a4 a5 => .inr ⟨k', p', a1, lt_of_some a2, a2, a3, a4, a5, rfl⟩
  refine ⟨φ', w1, ⟨hkl, ?_, ?_, hag.1, ?_, ?_, ?_, I', Ext.trans I0.mem.llt X1 X', t1, t2, t3, ?_, ?_, ?_, σ.frame.trans (putD_same _ _ _), ?_, ?_⟩, hst⟩
  · rintro i (h | h)
    · exact σ.lt i h
    · rw [h]
      rcases Nat.lt_or_ge p.i ops.toList.length with h1 | h1
      · exact h1
      · rw [List.getElem?_eq_none h1] at ho; cases ho
  · rintro i (h | h) j hj
    · exact .inl (σ.closed i h j hj)
    · rw [h] at hj; exact .inl (hm j hj)
  · intro k' p' a1 a2 a3
    rcases Nat.lt_or_ge k' K with h | h
    · exact .inl (σ.past k' p' h a2 a3)
    · by_cases hk : k' = k
      · subst hk; rw [hp] at a2; cases a2; exact .inr rfl
      · exact .inl (ahead k' p' h (by omega) a2 a3)
  · intro k' p' a1 a2 a3 a4
    have hc := later k' p' a1 a2 a4
    exact absurd (σ.closed _ hc _ (B.plan.loud k' k p' p (by omega) a2 hp h3 (.inr a3))) hx
  · intro k' p' a1 a2 a3 a4
    have hk : k' < k := by
      rcases Nat.lt_or_ge k' k with h | h
      · exact h
      · have : k' = k := by omega
        subst this
        rw [hp] at a2; cases a2; omega
    rcases B.plan.again k k' p p' hk hp a2 a3 h3 with h | ⟨k2, p2, b1, b2, b3, b4⟩
    · exact hag.2 _ h
    · exfalso
      apply a4
      by_cases hk2 : k2 = k
      · subst hk2; rw [hp] at b2; cases b2; exact .inl (hm _ b4)
      · have hc : C p2.i := by
          rcases Nat.lt_or_ge k2 K with h | h
          · exact σ.past k2 p2 h b2 (.inr b3)
          · exact ahead k2 p2 h (by omega) b2 (.inr b3)
        exact .inl (σ.closed _ hc _ b4)
  · intro k' p' hp' hc
    rcases hc with hc | hc
    · exact fine_same (φ' := φ') (hs.sub (D := Dk S pl wt C K (k' + 1)) fun b hb => Dk.mono (fun _ h => h) (lt_of_some hp') hb) (fun b hb => dk _ _ (lt_of_some hp') hb) _ (σ.fine k' p' hp' hc)
    · obtain ⟨rfl, rfl⟩ := pos k' p' hp' hc
      exact fine_same s1 (fun b hb => .inl hb) _ hfu
  · intro k' p' a1 a2 a3 a4 a5
    have hc := later k' p' a1 a2 a4
    obtain ⟨cs', el', c1, c2, c3, c4, c5, c6, c7⟩ := σ.made k' p' (by omega) a2 a3 hc a5
    obtain ⟨b1, b2, _⟩ := hs _ (inD k' p' (by omega) a2 a3 hc a5)
    have sc := hs.sub (D := Dk S pl wt C K k') fun b hb => Dk.mono (fun _ h => h) (Nat.le_of_lt (lt_of_some a2)) hb
    have l1 := L1 k' p' (by omega) a2 a3 hc a5
    refine ⟨cs', el', c1, c2, fineL_same sc (fun b hb => dk _ _ (Nat.le_of_lt (lt_of_some a2)) hb) _ c3, ?_, b2.trans c5, by rw [b1]; exact c6, fun b hb => ?_⟩
    · rw [b1, concL_same sc _ c3, X.keep _ (lt_of_get c4) fun b hb => l1 b hb.live]
      exact c4
    · rw [b1]
      have hblt := I.mem.llt b hb
      rcases Nat.lt_or_ge b (S k).h.next with h | h
      · rw [(X'.same b h).1]; exact l1 b (X.lv b h hb)
      · rw [(s1 b hblt).1]
        rcases X.born b h hb with h' | ⟨b0, h', h''⟩
        · have := lt_of_get c4; omega
        · rw [← h'']; exact l1 b0 h'
  · intro k1 k2 p1 p2 a1 a2 a3 a4 a5 a6 a7 a8 a9 a10 he
    have c1 := later k1 p1 a1 a3 a7
    have c2 := later k2 p2 a2 a4 a8
    rw [(hs _ (inD k1 p1 (by omega) a3 a5 c1 a9)).1, (hs _ (inD k2 p2 (by omega) a4 a6 c2 a10)).1] at he
    exact σ.apart k1 k2 p1 p2 (by omega) (by omega) a3 a4 a5 a6 c1 c2 a9 a10 he
  · rw [putD_defers]; exact σ.marks.ext I1.mem X
  · exact Nat.le_trans σ.base X.size
end
end Go.Vint
namespace Go.Vint
variable {P : Program} {E : Env} {φ φ' φ0 : Phi} {D D' : Nat → Prop} {w w' w0 : World} {h h' h0 : H} {t t' t0 : Tm} {ct : Array Value} {ih : Ih}
section
variable {ops : Array Oper} {M : Nat → Nat} {pl : List Pl} {S : Nat → St} {v : Nat → V} {wt : Nat → Bool} {s0 : Nat} {fr0 : Frame} {C : Nat → Prop} {K : Nat} {fr : Frame}

/-- what an operation of the plan sees -/
noncomputable def seen (ops : Array Oper) (o : Oper) : List Nat := tmpsOf o.op.operands.toList ++ gd ops.toList o
theorem mem_gd {l : List Oper} {o : Oper} {d : Nat} (h : d ∈ gd l o) : ∃ g b p, o.guard = some (g, b) ∧ l[g]? = some p ∧ p.dst = some d := by
  unfold gd at h
  cases hg : o.guard with
  | none => rw [hg] at h; simp at h
  | some g =>
    obtain ⟨j, b⟩ := g
    rw [hg] at h
    dsimp only at h
    cases hp : l[j]? with
    | none => rw [hp] at h; simp at h
    | some p =>
      rw [hp] at h
      simp at h
      exact ⟨j, b, p, rfl, hp, h⟩
theorem Sim.sees (B : Tr E ih ops M pl S v wt t0 h0) (σ : Sim P E ops M pl S v wt φ0 h0 w0 t0 s0 fr0 C K φ w fr) {k : Nat} {p : Pl} {o : Oper} (hp : pl[k]? = some p) (ho : ops.toList[p.i]? = some o) (hx : ¬ C p.i)
    (hm : ∀ j, bit (M p.i) j = true → C j) {m : Nat} (hmk : m = k ∨ (k < m ∧ p.kind = 1)) :
    ∀ d ∈ seen ops o, ∀ (k' : Nat) (p' : Pl) (o' : Oper), pl[k']? = some p' → ops.toList[p'.i]? = some o' → o'.dst = some d → (C p'.i ∧ k' < m) ∨ (¬ C p'.i ∧ m ≤ k') := by
  intro d hd k' p' o' hp' ho' hd'
  have before : bit (M p.i) p'.i = true → (C p'.i ∧ k' < m) ∨ (¬ C p'.i ∧ m ≤ k') := by
    intro hb
    obtain ⟨k2, p2, a1, a2, a3⟩ := B.plan.ahead k p hp _ hb
    have := B.plan.inj k2 k' p2 p' a2 hp' a3
    exact .inl ⟨hm _ hb, by omega⟩
  rcases List.mem_append.1 hd with hd | hd
  · rcases B.plan.sees p.i o p'.i o' d ho ho' hd' with h | ⟨h1, h2⟩ | h
    · exact before h
    · rcases hmk with rfl | ⟨_, h⟩
      · obtain ⟨k2, p2, a1, a2, a3⟩ := B.plan.ahead k' p' hp' _ h2
        have := B.plan.inj k2 m p2 p a2 hp a3
        exact .inr ⟨fun hc => hx (σ.closed _ hc _ h2), by omega⟩
      · rw [← B.kind hp ho] at h1; exact absurd h h1
    · exact absurd hd h
  · obtain ⟨g, b, pg, g1, g2, g3⟩ := mem_gd hd
    have := B.plan.one ho' g2 hd' g3
    exact before (by rw [this]; exact B.plan.guard p.i o g b ho g1)

/-- one operation of the machine -/
theorem Sim.step (B : Tr E ih ops M pl S v wt t0 h0) (I0 : Inv P φ0 h0 w0) (F0 : Fr φ0 h0 w0 s0 t0 fr0) (hT : TysOk P E) (hV : Views P E) (hcall : SoundCall P ih.call) (σ : Sim P E ops M pl S v wt φ0 h0 w0 t0 s0 fr0 C K φ w fr) {x : Nat} {o : Oper} (hoA : ops[x]? = some o) (hx : ¬ C x)
    (hr : ∀ e ∈ o.after.toList, binding e = true → C e.on) {rest : List Nat} {kk : List Item} {cs : List Frame} :
    ∃ K' φ' w' fr', Sim P E ops M pl S v wt φ0 h0 w0 t0 s0 fr0 (also C x) K' φ' w' fr' ∧ Steps P (lone (onTodo fr (.inRegion ops (x :: rest) :: kk)) cs w) (lone (onTodo fr' (.inRegion ops rest :: kk)) cs w') := by
  have ho : ops.toList[x]? = some o := by rw [Array.getElem?_toList]; exact hoA
  have hlt : x < ops.toList.length := by
    rcases Nat.lt_or_ge x ops.toList.length with h | h
    · exact h
    · rw [List.getElem?_eq_none h] at ho; cases ho
  obtain ⟨k, p, hp, rfl⟩ := B.plan.all x hlt
  have hkl := lt_of_some hp
  have hm : ∀ j, bit (M p.i) j = true → C j := by
    intro j hj
    obtain ⟨e, he, hb, h⟩ := B.plan.mask p.i o ho j hj
    have := hr e he hb
    rcases h with rfl | h
    · exact this
    · exact σ.closed _ this _ h
  have D1 : ∀ b, b < h0.next → Dk S pl wt C K k b := fun b hb => .inl (Nat.lt_of_lt_of_le hb σ.ext.next)
  have D2 : ∀ (k' : Nat) (p' : Pl), k' < k → pl[k']? = some p' → C p'.i → fineV φ (Dk S pl wt C K k) (v k') := fun k' p' h1 h2 h3 =>
    fine_same (Phi.Same.refl _ φ) (fun b hb => Dk.mono (fun _ h => h) h1 hb) _ (σ.fine k' p' h2 h3)
  obtain ⟨hv, hfv⟩ := σ.view (D := Dk S pl wt C K k) B F0 (U := seen ops o) (m := k) (Nat.le_of_lt hkl) D1 (fun k' p' h1 h2 h3 _ => D2 k' p' h1 h2 h3) (σ.sees B hp ho hx hm (.inl rfl))
  obtain ⟨o2, ho2, st⟩ := B.step k p hp
  rw [ho] at ho2; cases ho2
  have al := only_alike (S k).t (seen ops o)
  have alo : Alike (tmpsOf o.op.operands.toList) (S k).t ((S k).t.only (seen ops o)) := al.sub fun i hi => List.mem_append_left _ hi
  have hwn : Region.wanted o (yielded ops fr.tmps) = wt k := by
    have := st.want
    rw [← wantedK_alike (al.sub fun i hi => List.mem_append_right _ hi)] at this
    have := wantedK_ok hv this
    exact (R.ok.inj this)
  have quiet : fineV φ (Dk S pl wt C K k) (v k) → p.kind ≤ 1 → wt k = true → Runs P (execOp (rho fr.tmps) o) w (.value (conc φ (v k))) w →
      ∃ K' φ' w' fr', Sim P E ops M pl S v wt φ0 h0 w0 t0 s0 fr0 (also C p.i) K' φ' w' fr' ∧ Steps P (lone (onTodo fr (.inRegion ops (p.i :: rest) :: kk)) cs w) (lone (onTodo fr' (.inRegion ops rest :: kk)) cs w') := by
    intro hf hk hw hrun
    refine ⟨K, φ, w, _, σ.quiet B F0 hp ho hx hm hf (.inr hk), .one ?_⟩
    rw [hw] at hwn
    have nd : ∀ c, o.op ≠ .defer c := by
      rintro c hc
      have h1 := B.kind hp ho
      rw [hc] at h1
      have h1 : p.kind = 3 := h1
      omega
    have := (asks_op (P := P) (w := w) (k := kk) (cs := cs) (rest := rest) hoA hwn nd).value _ _ hrun
    rw [finish_on, hoA] at this
    exact this
  cases hw : wt k with
  | false =>
    rw [hw] at hwn
    obtain ⟨hvu, _, _⟩ := st.off hw
    refine ⟨K, φ, w, _, σ.quiet B F0 hp ho hx hm (by rw [hvu]; simp [fineV]) (.inl hw), .one ?_⟩
    have := to_opSkip (P := P) (w := w) (fr := fr) (k := kk) (cs := cs) (ops := ops) (i := p.i) (rest := rest) (by rw [hoA]; exact hwn)
    rw [hoA] at this
    rw [hvu]
    simpa [conc, undef] using this
  | true =>
    have hk3 := B.kind_le hp
    rcases (show p.kind = 0 ∨ p.kind = 1 ∨ p.kind = 2 ∨ p.kind = 3 by omega) with h0k | h1k | h2k | h3k
    · obtain ⟨⟨h1, e, hn⟩, _, _⟩ := st.pure hw (by omega)
      rw [← op1_alike alo] at e
      obtain ⟨_, r1, r2⟩ := op1_pu0 (w := w) hT hv hfv o (by rw [← B.kind hp ho]; exact h0k) hn e
      exact quiet r2 (by omega) hw r1
    · rcases Nat.lt_or_ge k K with hkK | hkK
      · obtain ⟨o2, ho2, b, hb, hag⟩ := σ.again k p hkK hp h1k hx
        rw [ho] at ho2; cases ho2
        obtain ⟨hv2, hfv2⟩ := σ.view (D := Dk S pl wt C K k) B F0 (U := seen ops o) (m := K) σ.top D1 (fun k' p' h1 h2 h3 h4 => by
          obtain ⟨o', d, q1, q2, q3⟩ := h4
          rcases σ.sees B hp ho hx hm (m := k) (.inl rfl) d q3 k' p' o' h2 q1 q2 with h | h
          · exact D2 k' p' h.2 h2 h3
          · exact absurd h3 h.1) (σ.sees B hp ho hx hm (.inr ⟨hkK, h1k⟩))
        have al2 := only_alike (S K).t (seen ops o)
        have hb1 : b = true := by
          rw [← wantedK_alike (al2.sub fun i hi => List.mem_append_right _ hi)] at hb
          have := R.ok.inj (wantedK_ok hv2 hb)
          rw [hwn, hw] at this
          exact this.symm
        obtain ⟨d, u, h1, hd, hat, e, hn⟩ := hag hb1
        rw [B.hit hp ho hd K hkK σ.top] at hat
        cases hat
        rw [← op1_alike (al2.sub fun i hi => List.mem_append_left _ hi)] at e
        have hfH : fineH φ (Dk S pl wt C K k) (S K).h := fun b o hb => fineO_same (Phi.Same.refl _ φ) (fun b hb => .inl hb) (σ.inv.fine b o hb)
        obtain ⟨_, r1, r2⟩ := op1_pu (w := w) hT hV σ.inv.mem hfH hv2 hfv2 o (by rw [← B.kind hp ho]; omega) (.inr hn) e
        exact quiet r2 (by omega) hw r1
      · obtain ⟨⟨h1, e, hn⟩, _, _⟩ := st.pure hw (by omega)
        rw [σ.hlSame B k hkK (Nat.le_of_lt hkl) (fun k' p' a1 a2 a3 a4 => hm _ (B.plan.loud k k' p p' a2 hp a3 a4 (.inl h1k)))] at e hn
        rw [← op1_alike alo] at e
        have hfH : fineH φ (Dk S pl wt C K k) (S K).h := fun b o hb => fineO_same (Phi.Same.refl _ φ) (fun b hb => .inl hb) (σ.inv.fine b o hb)
        obtain ⟨_, r1, r2⟩ := op1_pu (w := w) hT hV σ.inv.mem hfH hv hfv o (by rw [← B.kind hp ho]; omega) (.inr hn) e
        exact quiet r2 (by omega) hw r1
    · have hkK : K ≤ k := by
        rcases Nat.lt_or_ge k K with h | h
        · exact absurd (σ.past k p h hp (.inl h2k)) hx
        · exact h
      obtain ⟨e, _, _⟩ := st.made hw h2k
      rw [← op1_alike alo] at e
      obtain ⟨φ', w', σ', hrun⟩ := σ.alloc B I0 F0 hT hp ho hx hm h2k hw hkK hv hfv e
      refine ⟨K, φ', w', _, σ', .one ?_⟩
      rw [hw] at hwn
      have nd : ∀ c, o.op ≠ .defer c := by
        rintro c hc
        have h1 := B.kind hp ho
        rw [hc] at h1
        have h1 : p.kind = 3 := h1
        omega
      have := (asks_op (P := P) (w := w) (k := kk) (cs := cs) (rest := rest) hoA hwn nd).value _ _ hrun
      rw [finish_on, hoA] at this
      exact this
    · have hkK : K ≤ k := by
        rcases Nat.lt_or_ge k K with h | h
        · exact absurd (σ.past k p h hp (.inr h3k)) hx
        · exact h
      obtain ⟨e, e2, _, e4⟩ := st.loud hw (by omega)
      rw [← oper_alike alo] at e
      obtain ⟨φ', w', σ', hst⟩ := σ.loud B I0 F0 hT hV hcall hp ho hx hm h3k hw hkK hv hfv e ⟨e2, e4⟩ (rest := rest) (kk := kk) (cs := cs) (by rw [hwn, hw]) hoA
      exact ⟨k + 1, φ', w', _, σ', hst⟩

/-- when the machine has done all -/
theorem Sim.finish (B : Tr E ih ops M pl S v wt t0 h0) (F0 : Fr φ0 h0 w0 s0 t0 fr0) (σ : Sim P E ops M pl S v wt φ0 h0 w0 t0 s0 fr0 C K φ w fr) (hall : ∀ i, i < ops.toList.length → C i) :
    Ext φ0 h0 w0 φ (S pl.length).h w ∧ Inv P φ (S pl.length).h w ∧ sameFr fr0 fr ∧ Fr φ (S pl.length).h w s0 (S pl.length).t fr := by
  have hc : ∀ (k : Nat) (p : Pl), pl[k]? = some p → C p.i := by
    intro k p hp
    obtain ⟨o, ho, _⟩ := B.plan.kind k p hp
    refine hall _ ?_
    rcases Nat.lt_or_ge p.i ops.toList.length with h | h
    · exact h
    · rw [List.getElem?_eq_none h] at ho; cases ho
  obtain ⟨I, X, _⟩ := σ.advance B pl.length σ.top (Nat.le_refl _) fun k p _ _ hp _ => hc k p hp
  obtain ⟨n1, n2⟩ := B.n pl.length (Nat.le_refl _)
  have key : ∀ i u, (S pl.length).t.at i = some u → fr.tmps.getD i undef = conc φ u ∧ fineV φ (· < (S pl.length).h.next) u := by
    intro i u hu
    by_cases hw : ∃ (k : Nat) (p : Pl) (o : Oper), pl[k]? = some p ∧ ops.toList[p.i]? = some o ∧ o.dst = some i
    · obtain ⟨k, p, o, a2, a3, a4⟩ := hw
      rw [B.hit a2 a3 a4 pl.length (lt_of_some a2) (Nat.le_refl _)] at hu
      cases hu
      exact ⟨σ.tmps k p o i a2 (hc k p a2) a3 a4, fine_same (Phi.Same.refl _ φ) (fun b hb => Dk.lt B σ.top (Nat.le_refl _) (Dk.mono (fun _ h => h) (lt_of_some a2) hb)) _ (σ.fine k p a2 (hc k p a2))⟩
    · rw [B.miss pl.length (Nat.le_refl _) (fun k' p' o' _ hp' ho' hd => hw ⟨k', p', o', hp', ho', hd⟩)] at hu
      refine ⟨σ.old i (fun x o hx ho hd => ?_) u hu, fine_same X.same (fun b hb => Nat.lt_of_lt_of_le hb X.next) u (F0.fine i u hu)⟩
      obtain ⟨k, p, hp, rfl⟩ := B.plan.all x (σ.lt x hx)
      exact hw ⟨k, p, o, hp, ho, hd⟩
  exact ⟨X, I, σ.frame, ⟨⟨by rw [σ.size]; exact n1.symm, by rw [n1]; exact F0.rel.small, by rw [n1]; exact n2, fun i u hu => (key i u hu).1⟩, fun i u hu => (key i u hu).2, σ.marks, σ.base⟩⟩

theorem binds_any (e : Edge) : Region.binds .any e = binding e := by
  unfold Region.binds binding
  cases e.ground <;> rfl
def done (ops : Array Oper) (listed : Array Bool) (i : Nat) : Prop := i < ops.toList.length ∧ listed.getD i true = true
theorem mem_ready {listed : Array Bool} (_hs : listed.size = ops.size) {i : Nat} : i ∈ Region.ready .any ops listed ↔ ∃ o, ops[i]? = some o ∧ ¬ done ops listed i ∧ ∀ e ∈ o.after.toList, binding e = true → listed.getD e.on false = true := by
  unfold Region.ready
  rw [List.mem_filter, List.mem_range, Bool.and_eq_true]
  constructor
  · rintro ⟨h1, h2, h3⟩
    have ho : ops[i]? = some ops[i] := Array.getElem?_eq_getElem h1
    rw [ho] at h3
    simp only [Option.map_some, Option.getD_some] at h3
    rw [Array.all_eq_true_iff_forall_mem] at h3
    refine ⟨ops[i], ho, fun hd => ?_, fun e he hb => ?_⟩
    · rw [hd.2] at h2; cases h2
    · have := h3 e (Array.mem_def.2 he)
      rw [binds_any, hb] at this
      simpa using this
  · rintro ⟨o, ho, h2, h3⟩
    have hlt : i < ops.size := by
      rcases Nat.lt_or_ge i ops.size with h | h
      · exact h
      · rw [Array.getElem?_eq_none h] at ho; cases ho
    refine ⟨hlt, ?_, ?_⟩
    · cases hb : listed.getD i true with
      | false => rfl
      | true => exact absurd ⟨by simpa using hlt, hb⟩ h2
    · rw [ho]
      simp only [Option.map_some, Option.getD_some]
      rw [Array.all_eq_true_iff_forall_mem]
      intro e he
      rw [binds_any]
      cases hb : binding e with
      | false => rfl
      | true => simpa using h3 e (Array.mem_def.1 he) hb
theorem getD_listed {listed : Array Bool} (hs : listed.size = ops.size) {x : Nat} (hx : x < ops.size) (i : Nat) (b : Bool) : (listed.setIfInBounds x true).getD i b = if i = x then true else listed.getD i b := by
  simp only [Array.getD_eq_getD_getElem?, Array.getElem?_setIfInBounds]
  by_cases hi : x = i
  · subst hi; rw [if_pos rfl, if_pos (by omega), if_pos rfl]; rfl
  · rw [if_neg hi, if_neg (fun h => hi h.symm)]
/-- how many are left -/
def left (ops : Array Oper) (listed : Array Bool) : List Nat := (List.range ops.size).filter fun i => !listed.getD i true
theorem left_set {listed : Array Bool} (hs : listed.size = ops.size) {x : Nat} (hx : x < ops.size) (hn : listed.getD x true = false) : (left ops (listed.setIfInBounds x true)).length + 1 = (left ops listed).length := by
  have e : left ops (listed.setIfInBounds x true) = (left ops listed).filter (· != x) := by
    unfold left
    rw [List.filter_filter]
    apply List.filter_congr
    intro i _
    rw [getD_listed hs hx]
    by_cases h : i = x
    · subst h; simp
    · rw [if_neg h]
      have : (i != x) = true := by simpa using h
      rw [this]; simp
  have nd : (left ops listed).Nodup := List.Pairwise.filter _ List.nodup_range
  have hm : x ∈ left ops listed := List.mem_filter.2 ⟨List.mem_range.2 hx, by rw [hn]; rfl⟩
  rw [e, ← List.Nodup.erase_eq_filter nd, List.length_erase_of_mem hm]
  have := List.length_pos_of_mem hm
  omega

theorem all_ready (B : Tr E ih ops M pl S v wt t0 h0) {listed : Array Bool} (hs : listed.size = ops.size) (hr : Region.ready .any ops listed = []) : ∀ i, i < ops.toList.length → done ops listed i := by
  intro i
  induction i using Nat.strongRecOn with
  | _ i jh =>
    intro hi
    have ho : ops[i]? = some (ops[i]'(by simpa using hi)) := Array.getElem?_eq_getElem _
    have hoL : ops.toList[i]? = some (ops[i]'(by simpa using hi)) := by rw [Array.getElem?_toList]; exact ho
    refine Classical.byContradiction fun hn => ?_
    have : i ∈ Region.ready .any ops listed := (mem_ready hs).2 ⟨_, ho, hn, fun e he hb => by
      have hlt := B.plan.edge i _ hoL e he hb
      have := (jh e.on hlt (by omega)).2
      simp only [Array.getD_eq_getD_getElem?] at this ⊢
      have hsz : e.on < listed.size := by rw [hs]; have : i < ops.size := by simpa using hi
                                          omega
      rw [Array.getElem?_eq_getElem hsz] at this ⊢
      exact this⟩
    rw [hr] at this
    cases this
theorem Sim.go (B : Tr E ih ops M pl S v wt t0 h0) (I0 : Inv P φ0 h0 w0) (F0 : Fr φ0 h0 w0 s0 t0 fr0) (hT : TysOk P E) (hV : Views P E) (hcall : SoundCall P ih.call) {kk : List Item} {cs : List Frame} (fuel : Nat) :
    ∀ (q : Nat) (listed : Array Bool) (K : Nat) (φ : Phi) (w : World) (fr : Frame), listed.size = ops.size → (left ops listed).length ≤ fuel → Sim P E ops M pl S v wt φ0 h0 w0 t0 s0 fr0 (done ops listed) K φ w fr →
      ∃ φ' w' fr', Ext φ0 h0 w0 φ' (S pl.length).h w' ∧ Inv P φ' (S pl.length).h w' ∧ sameFr fr0 fr' ∧ Fr φ' (S pl.length).h w' s0 (S pl.length).t fr' ∧
        Steps P (lone (onTodo fr (.inRegion ops (Region.linearise.go .any ops fuel q listed []) :: kk)) cs w) (lone (onTodo fr' kk) cs w') := by
  have stop : ∀ (listed : Array Bool) (K : Nat) (φ : Phi) (w : World) (fr : Frame), Sim P E ops M pl S v wt φ0 h0 w0 t0 s0 fr0 (done ops listed) K φ w fr → (∀ i, i < ops.toList.length → done ops listed i) →
      ∃ φ' w' fr', Ext φ0 h0 w0 φ' (S pl.length).h w' ∧ Inv P φ' (S pl.length).h w' ∧ sameFr fr0 fr' ∧ Fr φ' (S pl.length).h w' s0 (S pl.length).t fr' ∧
        Steps P (lone (onTodo fr (.inRegion ops [] :: kk)) cs w) (lone (onTodo fr' kk) cs w') := by
    intro listed K φ w fr σ hall
    obtain ⟨a1, a2, a3, a4⟩ := σ.finish B F0 hall
    exact ⟨φ, w, fr, a1, a2, a3, a4, .one to_regionEnd⟩
  induction fuel with
  | zero =>
    intro q listed K φ w fr hs hl σ
    refine stop listed K φ w fr σ fun i hi => ⟨hi, ?_⟩
    cases hb : listed.getD i true with
    | true => rfl
    | false =>
      have : i ∈ left ops listed := List.mem_filter.2 ⟨List.mem_range.2 (by simpa using hi), by rw [hb]; rfl⟩
      have := List.length_pos_of_mem this
      omega
  | succ fuel jh =>
    intro q listed K φ w fr hs hl σ
    simp only [Region.linearise.go]
    change ∃ φ' w' fr', Ext φ0 h0 w0 φ' (S pl.length).h w' ∧ Inv P φ' (S pl.length).h w' ∧ sameFr fr0 fr' ∧ Fr φ' (S pl.length).h w' s0 (S pl.length).t fr' ∧
        Steps P (lone (onTodo fr (.inRegion ops (match (Region.ready .any ops listed)[q % (Region.ready .any ops listed).length]? with
          | some i => Region.linearise.go .any ops fuel (q / (Region.ready .any ops listed).length) (listed.setIfInBounds i true) [i]
          | none => [].reverse) :: kk)) cs w) (lone (onTodo fr' kk) cs w')
    cases hi : (Region.ready .any ops listed)[q % (Region.ready .any ops listed).length]? with
    | none =>
      have hnil : Region.ready .any ops listed = [] := by
        cases hr : Region.ready .any ops listed with
        | nil => rfl
        | cons x xs =>
          rw [hr] at hi
          have hlt : q % (x :: xs).length < (x :: xs).length := Nat.mod_lt _ (by simp)
          simp at hi
          simp at hlt
          omega
      exact stop listed K φ w fr σ (all_ready B hs hnil)
    | some i =>
      dsimp only
      rw [linearise_go_acc, List.reverse_singleton, List.singleton_append]
      obtain ⟨o, ho, hn, hr⟩ := (mem_ready hs).1 (List.mem_of_getElem? hi)
      have hlt : i < ops.size := by
        rcases Nat.lt_or_ge i ops.size with h | h
        · exact h
        · rw [Array.getElem?_eq_none h] at ho; cases ho
      have hoL : ops.toList[i]? = some o := by rw [Array.getElem?_toList]; exact ho
      obtain ⟨K', φ', w', fr', σ', st⟩ := σ.step B I0 F0 hT hV hcall ho hn (fun e he hb => by
        have h1 := hr e he hb
        have h2 := B.plan.edge i o hoL e he hb
        refine ⟨by simp; omega, ?_⟩
        simp only [Array.getD_eq_getD_getElem?] at h1 ⊢
        rw [Array.getElem?_eq_getElem (by omega)] at h1 ⊢
        exact h1) (rest := Region.linearise.go .any ops fuel (q / (Region.ready .any ops listed).length) (listed.setIfInBounds i true) []) (kk := kk) (cs := cs)
      have hC : also (done ops listed) i = done ops (listed.setIfInBounds i true) := by
        funext j
        apply propext
        unfold also done
        rw [getD_listed hs hlt]
        by_cases hj : j = i
        · subst hj
          rw [if_pos rfl]
          exact ⟨fun _ => ⟨by simpa using hlt, rfl⟩, fun _ => .inr rfl⟩
        · rw [if_neg hj]
          exact ⟨fun h => h.resolve_right hj, .inl⟩
      rw [hC] at σ'
      have hn' : listed.getD i true = false := by
        cases hb : listed.getD i true with
        | false => rfl
        | true => exact absurd ⟨by simpa using hlt, hb⟩ hn
      have hcount := left_set hs hlt hn'
      obtain ⟨φ2, w2, fr2, a1, a2, a3, a4, a5⟩ := jh (q / (Region.ready .any ops listed).length) (listed.setIfInBounds i true) K' φ' w' fr' (by simp [hs]) (by omega) σ'
      exact ⟨φ2, w2, fr2, a1, a2, a3, a4, st.trans a5⟩
end

theorem draw_sound (hT : TysOk P E) (hV : Views P E) (hmix : P.follows .mixedOrders = true) (hcall : SoundCall P ih.call) : SoundDraw P E ih := by
  intro ops pl t h t' h' hp e φ w s0 fr k cs I F q
  obtain ⟨M, hpl⟩ := plan_ok hp
  obtain ⟨S, v, wt, z, z1, z2, hst⟩ := trace_ok pl e
  have B : Tr E ih ops M pl S v wt t h := ⟨hpl, z, hst, F.rel.wf⟩
  have hsize : (Array.replicate ops.size false).size = ops.size := by simp
  have none : ∀ i, ¬ done ops (Array.replicate ops.size false) i := by
    rintro i ⟨h1, h2⟩
    have : i < ops.size := by simpa using h1
    simp [Array.getD_eq_getD_getElem?, this] at h2
  have σ : Sim P E ops M pl S v wt φ h w t s0 fr (done ops (Array.replicate ops.size false)) 0 φ w fr := by
    have hz : (S 0).h = h := by rw [z]
    refine ⟨Nat.zero_le _, fun i hi => absurd hi (none i), fun i hi => absurd hi (none i), by rw [z], fun k p h1 => by omega, fun k p _ _ _ hc => absurd hc (none _), fun k p h1 => by omega, by rw [hz]; exact I, by rw [hz]; exact Ext.refl _ _ _ I.mem.llt,
      fun k p o d _ hc => absurd hc (none _), fun d _ u hu => F.rel.at' d u hu, F.rel.size, fun k p _ hc => absurd hc (none _), fun k p _ _ _ hc => absurd hc (none _), fun _ _ _ _ _ _ _ _ _ _ hc => absurd hc (none _), sameFr.refl _, F.marks, F.base⟩
  obtain ⟨φ', w', fr', a1, a2, a3, a4, a5⟩ := Sim.go B I F hT hV hcall (kk := k) (cs := cs) ops.size q (Array.replicate ops.size false) 0 φ w fr hsize (by
    unfold left
    exact Nat.le_trans (List.length_filter_le _ _) (by simp)) σ
  rw [z1, z2] at *
  refine ⟨φ', w', fr', a1, a2, a3, a4, ?_⟩
  have : Region.schedule (P.follows .mixedOrders) ops q = Region.linearise.go .any ops ops.size q (Array.replicate ops.size false) [] := by
    unfold Region.schedule Region.linearise
    rw [hmix]; rfl
  rw [this]
  exact a5
end Go.Vint
namespace Go.Vint
variable {P : Program} {E : Env} {φ : Phi} {D : Nat → Prop} {w : World} {h h' : H} {v : V} {ih : Ih}

/-! ## What the runner is told of a program, read off the program itself -/
def kindOf : TypeDesc → K
  | .bool => .bool
  | .int k => .int k
  | .string => .str
  | .pointer e => .ptr e
  | .slice e => .slice e
  | .array n e => .arr n e
  | .map k e => .map k e
  | .struct fs => .struct (fs.toList.map fun f => (f.offset, f.type))
  | .func .. => .func
  | .unsafePointer => .raw
  | _ => .other
theorem kindOf_ok (d : TypeDesc) : kOk (kindOf d) d := by
  cases d <;> simp [kindOf, kOk]
def isAggV : V → Bool
  | .agg _ => true
  | _ => false
def fieldsOk (P : Program) : TypeDesc → Bool
  | .struct fs => fs.toList.all fun f => (P.info? f.type).isSome
  | _ => true
noncomputable def tyMk (d : TypeDesc) (i : TypeInfo) (v : V) (fl : List FK) : Option TI :=
  Bool.casesOn (and (Nat.beq (lenL v.cells) i.size) (and (allOne v.cells) (Bool.casesOn (aggD d) (not (isAggV v)) (isAggV v)))) none (some ⟨kindOf d, i.size, i.bytes, aggD d, v.cells, fl⟩)
noncomputable def tyOf (P : Program) (fl : TypeId → List FK) (t : TypeId) : Option TI :=
  Option.casesOn (P.info? t) none fun i => Option.casesOn (P.underlying t) none fun d => Bool.casesOn (fieldsOk P d) none (Option.casesOn i.zero none fun z => Option.casesOn (up 3 z) none fun v => tyMk d i v (fl t))
theorem tyOf_ok {fl : TypeId → List FK} (hfl : ∀ t, fl t ≠ [] → FlatOk P t (fl t)) {t : TypeId} {i : TI} (h : tyOf P fl t = some i) : TyOk P t i := by
  obtain ⟨inf, hi, h1⟩ := opt_some (x := P.info? t) h
  obtain ⟨d, hd, h2⟩ := opt_some (x := P.underlying t) h1
  obtain ⟨hfs, h3⟩ := bool_some (x := fieldsOk P d) h2
  obtain ⟨z, hz, h4⟩ := opt_some (x := inf.zero) h3
  obtain ⟨v, hv, h5⟩ := opt_some (x := up 3 z) h4
  unfold tyMk at h5
  obtain ⟨hc, h6⟩ := bool_some (x := and (Nat.beq (lenL v.cells) inf.size) (and (allOne v.cells) (Bool.casesOn (aggD d) (not (isAggV v)) (isAggV v)))) h5
  cases h6
  obtain ⟨c1, c2⟩ := and_ok hc
  obtain ⟨c2, c3⟩ := and_ok c2
  have c1 : lenL v.cells = inf.size := beq_eq c1
  rw [lenL_eq] at c1
  have hzv : zeroV ⟨kindOf d, inf.size, inf.bytes, aggD d, v.cells, fl t⟩ = v := by
    unfold zeroV
    dsimp only
    cases ha : aggD d with
    | true =>
      rw [ha] at c3
      cases v with
      | agg cs => rfl
      | _ => cases c3
    | false =>
      rw [ha] at c3
      cases v with
      | agg cs => cases c3
      | _ => rfl
  refine ⟨fun fields hf f hfm => ?_, hfl t, ⟨inf, z, hi, rfl, rfl, hz, fun φ => ?_, ?_, fun φ D => ?_⟩, ⟨d, hd, kindOf_ok d, rfl⟩, c1, c2⟩
  · rw [hd] at hf
    cases hf
    have hfs : fields.toList.all (fun f => (P.info? f.type).isSome) = true := hfs
    rw [List.all_eq_true] at hfs
    exact Option.isSome_iff_exists.1 (hfs f hfm)
  · rw [hzv]; exact (up_ok 3 z v hv φ (fun _ => True)).1
  · rw [hzv]
  · rw [hzv]; exact (up_ok 3 z v hv φ D).2
noncomputable def bodyOf (P : Program) (lv : Nat → Nat) (f : FuncId) : Option (Code × List ResultVar × Nat × Nat) :=
  (P.funcs[f]?).bind fun fn => fn.body.map fun c => (c, fn.results.toList, fn.ntmps, lv f)
def noNum (P : Program) : Bool := P.funcs.toList.all fun fn => !(fn.name == "runtime.NumGoroutine")
theorem noNum_ok (h : noNum P = true) {f : Nat} {fn : Func} (hf : P.funcs[f]? = some fn) : (fn.name == "runtime.NumGoroutine") = false := by
  unfold noNum at h
  rw [List.all_eq_true] at h
  have := h fn (List.mem_of_getElem? (by rw [Array.getElem?_toList]; exact hf))
  simpa using this
theorem bodyOf_ok (hn : noNum P = true) {lv : Nat → Nat} {ty : TypeId → Option TI} {hk : FuncId → Option (List V → H → Option (V × H))} {vw : TypeId → Bool} {st : Bool} : BodyOk P ⟨ty, bodyOf P lv, hk, vw, st⟩ := by
  intro f c rs n l h
  have h : (P.funcs[f]?).bind (fun fn => fn.body.map fun c => (c, fn.results.toList, fn.ntmps, lv f)) = some (c, rs, n, l) := h
  rw [Option.bind_eq_some_iff] at h
  obtain ⟨fn, h1, h2⟩ := h
  rw [Option.map_eq_some_iff] at h2
  obtain ⟨c', h3, h4⟩ := h2
  cases h4
  exact ⟨fn, h1, noNum_ok hn h1, h3, rfl, rfl⟩

/-- what the runner tells is so -/
theorem sound_run (K : EnvOk P E) (hm : P.follows .mixedOrders = true) (n : Nat) : Sound P (run E n) :=
  run_sound K (fun _ S => draw_sound K.tys K.views hm S.call) n
theorem sound_calls (K : EnvOk P E) (hm : P.follows .mixedOrders = true) {n : Nat} {f : FuncId} {c : Code × List ResultVar × Nat × Nat} (hb : E.body f = some c) {as : List V} (I : Inv P φ h w) (hfa : fineL φ (· < h.next) as)
    (e : callBody E (run E n) c as h = .ok (v, h')) :
    Calls P f (concL φ as).toArray w fun end' w' => ∃ φ', end' = .returned (conc φ' v) ∧ Ext φ h w φ' h' w' ∧ Inv P φ' h' w' ∧ fineV φ' (· < h'.next) v :=
  run_leaves K (fun _ S => draw_sound K.tys K.views hm S.call) hb I hfa e

/-! ## Hooks: functions without a body -/
theorem hook_extern {f : FuncId} {fn : Func} {e : Array Value → Sem Value} (hf : P.funcs[f]? = some fn) (hname : (fn.name == "runtime.NumGoroutine") = false)
    (hb : fn.body.isNone = true) (hn : Extern.findNext fn = none) (he : Extern.find fn = some e) {as : List V}
    (ef : Ef P φ h w (do pure (.value (← e (concL φ as).toArray))) v h') {m : Machine} {fr : Frame} {cs : List Frame} {s : Sem Next} (hs : s.run P w = (callFunc f (concL φ as).toArray).run P w) (a : Asks P m fr cs w s) : Gives P φ h w m fr cs v h' := by
  have e1 : (callFunc f (concL φ as).toArray).run P w = (do pure (Next.value (← e (concL φ as).toArray)) : Sem Next).run P w := by
    rw [run_callFunc_extern hf hname hb hn he]
    show _ = (e (concL φ as).toArray >>= fun a => pure (Next.value a)).run P w
    rw [Sem.run_bind]
    rfl
  have : Asks P m fr cs w (do pure (Next.value (← e (concL φ as).toArray)) : Sem Next) := by
    have h1 := hs.trans e1
    exact ⟨fun v w1 h => a.value v w1 (h1.trans h), fun w1 h => a.skip w1 (h1.trans h), fun f as w1 h => a.enter f as w1 (h1.trans h), fun l f ts x y w1 h => a.round l f ts x y w1 (h1.trans h)⟩
  exact ef.gives this
theorem Inv.beside {φ' : Phi} {h1 : H} {w' : World} (I : Inv P φ h w) (X : Ext φ ⟨.e, 0⟩ w φ' h1 w') : Ext φ h w φ h w' ∧ Inv P φ h w' := by
  have hg : ∀ b, (⟨.e, 0⟩ : H).get b = none := fun b => T.get_e 9 b
  have keep : ∀ c, c < w.heap.size → w'.heap[c]? = w.heap[c]? := fun c hc => X.keep c hc fun b hb => by
    obtain ⟨o, ho, _⟩ := hb; rw [hg] at ho; cases ho
  refine ⟨⟨Nat.le_refl _, Phi.Same.refl _ _, X.size, fun c hc _ => keep c hc, fun b hb hw => absurd (I.mem.wlt b hw) (by omega), fun _ _ hw => hw, X.os, X.tape, X.output, fun _ _ hw => hw, fun b hb hw => absurd (I.mem.llt b hw) (by omega)⟩,
    ⟨⟨fun b o ho => ?_, I.mem.lt, I.mem.nx, I.mem.inj⟩, I.fine⟩⟩
  by_cases hd : o = .dead
  · subst hd; trivial
  · rw [keep _ (I.mem.inHeap ho hd)]; exact I.mem.rel b o ho
/-- a hook that knows one call's value: no block is in it -/
theorem hook_memo (K : EnvOk P E) (hm : P.follows .mixedOrders = true) {n : Nat} {f : FuncId} {c : Code × List ResultVar × Nat × Nat} (hb : E.body f = some c) {as : List V} {h1 : H}
    (e : callBody E (run E n) c as ⟨.e, 0⟩ = .ok (v, h1)) (hfa : ∀ φ D, fineL φ D as) (hfv : ∀ φ D, fineV φ D v) (I : Inv P φ h w)
    {m : Machine} {fr : Frame} {cs : List Frame} {s : Sem Next} (hs : s.run P w = (callFunc f (concL φ as).toArray).run P w) (a : Asks P m fr cs w s) : Gives P φ h w m fr cs v h := by
  obtain ⟨c, rs, ms, lv⟩ := c
  obtain ⟨fn, b1, b2, b3, b4, b5⟩ := K.bodies f c rs ms lv hb
  have hst : step P m = .next (lone (Frame.enter P f (concL φ as).toArray .normal) (fr :: cs) w) := by
    refine a.enter f _ w (hs.trans ?_)
    have h2 : fn.name ≠ "runtime.NumGoroutine" := by simpa using b2
    simp [callFunc, b1, h2, b3]
  obtain ⟨φ', w', x1, x2, x3, x4⟩ := callBody_gives K.tys (sound_run K hm n) b1 b3 b4 b5 (Inv.empty φ w) (hfa φ _) e hst
  obtain ⟨y1, y2⟩ := I.beside x1
  refine ⟨φ, w', y1, y2, hfv φ _, ?_⟩
  have : conc φ' v = conc φ v := conc_same (D := fun _ => False) (fun _ h => h.elim) v (hfv φ _)
  rw [← this]; exact x4
end Go.Vint
