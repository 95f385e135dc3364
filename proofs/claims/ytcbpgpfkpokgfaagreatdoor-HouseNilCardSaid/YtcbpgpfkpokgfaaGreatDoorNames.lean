/- What house.names does at any two texts: some error's number, nothing that was there is changed; what Link and Rename do at a house that isn't there. Conditions: as the theorems state them. -/
import Derived.Test.YtcbpgpfkpokgfaaGreatDoorShelf
import Derived.Shelf.Strings.SlTrimAscii
import Derived.Lib.OthersKept
import Derived.Lib.DecodeN
import Derived.Lib.TrimUEq
import Derived.Laws.RangeString
import Derived.WalkMore
import Derived.Below
import Derived.OwnWalk
import Derived.Tactics
import Derived.WalkKit
import Derived.KernelRfl
import Derived.BigQuiet
import Derived.Deep.QuietTactic
import Derived.Deep.LoopGhost
import Derived.WideLaws
import Derived.BigFrame
namespace Go.Proofs.YtcbpgpfkpokgfaaGreatDoor.Names
open Go Go.RowKit
structure Aside0 (p : Prop) : Prop where
  mk :: out : p
set_option maxRecDepth 100000
set_option maxHeartbeats 8000000
def GBad.signs : List UInt8 := [97, 98, 99, 100, 101, 102, 103, 104, 105, 106, 107, 108, 109, 110, 111, 112, 113, 114, 115, 116, 117, 118, 119, 120, 121, 122, 48, 49, 50, 51, 52, 53, 54, 55, 56, 57, 46, 45, 95]
def GBad.f (a0 : ByteArray) : Option (Bool) := if a0.data.toList.all (fun b => GBad.signs.contains b) = true then (some false) else (none)
theorem GBad.sign_lt : ∀ b ∈ GBad.signs, b.toNat < 128 := fun b hb => of_decide_eq_true (List.all_eq_true.1 (show GBad.signs.all (fun b => decide (b.toNat < 128)) = true by kernel_rfl) b hb)
theorem GBad.one (x : UInt8) (hx : GBad.signs.contains x = true) (w : World) : Calls Tryz.prog 260 #[.int .i32 (x.toNat : Int)] w fun e w' => e = .returned (.bool false) ∧ w = w' := by
  have hm : x ∈ GBad.signs := by simpa using hx
  have hlt := GBad.sign_lt x hm
  have c := Go.Proofs.Tryz.strings_ContainsRune_ascii (⟨#[97, 98, 99, 100, 101, 102, 103, 104, 105, 106, 107, 108, 109, 110, 111, 112, 113, 114, 115, 116, 117, 118, 119, 120, 121, 122, 48, 49, 50, 51, 52, 53, 54, 55, 56, 57, 46, 45, 95]⟩ : ByteArray) (x.toNat : Int) w (by omega) (by omega)
  have hi : decide (0 ≤ Lib.indexByte GBad.signs (x.toNat : Int).toNat.toUInt8) = true := by
    rw [show (x.toNat : Int).toNat.toUInt8 = x by simp]
    exact List.all_eq_true.1 (show GBad.signs.all (fun b => decide (0 ≤ Lib.indexByte GBad.signs b)) = true by kernel_rfl) x hm
  have hd : (⟨#[97, 98, 99, 100, 101, 102, 103, 104, 105, 106, 107, 108, 109, 110, 111, 112, 113, 114, 115, 116, 117, 118, 119, 120, 121, 122, 48, 49, 50, 51, 52, 53, 54, 55, 56, 57, 46, 45, 95]⟩ : ByteArray).data.toList = GBad.signs := rfl
  rw [hd, hi] at c
  have C := Aside0.mk c
  clear c hi hd
  generalize (x.toNat : Int) = r at *
  go_enter Tryz.func260, Tryz.ntmps260
  go_wp2_with (go_at_call 261; (with_reducible refine C.out.mono ?_); rintro e w' ⟨rfl, rfl⟩)
  go_ret
  exact ⟨rfl, rfl⟩
theorem GBad.decode (s : ByteArray) (hs : s.data.toList.all (fun b => GBad.signs.contains b) = true) (pos : Nat) (hp : pos < s.size) : ∃ x : UInt8, GBad.signs.contains x = true ∧ Utf8.decode s pos = (x.toNat, 1) := by
  have hl : pos < s.data.toList.length := by rw [Array.length_toList]; exact hp
  have hx := List.all_eq_true.1 hs _ (List.getElem_mem hl)
  refine ⟨s.data.toList[pos], hx, ?_⟩
  have hlt : (s.data.toList[pos]).toNat < 128 := GBad.sign_lt _ (by simpa using hx)
  have hg : s.get! pos = s.data.toList[pos] := by
    show s.data.get!Internal pos = _
    rw [Array.getElem_toList]
    exact getElem!_pos s.data pos hp
  rw [Lib.decode_at, hg]
  exact Lib.decodeN_ascii _ _ _ _ _ hlt
set_option maxHeartbeats 2000000 in
set_option maxRecDepth 100000 in
theorem GBad.inner (s : ByteArray) (hs : s.data.toList.all (fun b => GBad.signs.contains b) = true) (w : World) :
    Calls Tryz.prog 369 #[.string s, .func (.func 260) #[] #[], .bool true] w fun e w' => e = .returned (.int .i64 (-1)) ∧ Below w.heap.size w w' := by
  have HS := Aside0.mk (GBad.decode s hs)
  clear hs
  go_enter Tryz.func369, Tryz.ntmps369
  go_wp2
  go_loopg [] s.size (fun gf wx => ∃ pos : Nat, wx.heap[w.heap.size]? = some (.stringIter s pos) ∧ Below w.heap.size w wx ∧ s.size ≤ pos + gf)
  case atStart => exact ⟨0, World.iter_heap w s 0, (Below.refl _ w).alloc (Nat.le_refl _) _, by omega⟩
  case round =>
    obtain ⟨pos, hit, hbw, hfu⟩ := hrel
    by_cases hps : pos < s.size
    · obtain ⟨g', rfl⟩ : ∃ g', gk = g' + 1 := ⟨gk - 1, by omega⟩
      obtain ⟨x, hx, hd⟩ := HS.out pos hps
      have hnx : ∀ ty, (Instr.next (.pointer (some ⟨w.heap.size, 0, none⟩)) true ty).run Tryz.prog wr = _ := fun ty => Lib.run_next_any_at wr w.heap.size s pos ty hit hps
      rw [hd] at hnx
      have hit2 := Lib.iterAt_heap wr w.heap.size s pos (pos + 1) hit
      have hbw2 := Lib.below_iterAt hbw (k := w.heap.size) (Nat.le_refl _) s (pos + 1)
      obtain ⟨W, hWd⟩ : ∃ W, wr.iterAt w.heap.size s (pos + 1) = W := ⟨_, rfl⟩
      simp only at hnx
      rw [hWd] at hnx hit2 hbw2
      have cS := Aside0.mk (GBad.one x hx W)
      clear hd hx
      generalize x.toNat = R at *
      go_wp2_with (go_at_call 260; (with_reducible refine cS.out.mono ?_); rintro e W' ⟨rfl, rfl⟩)
      go_roundg g'
      case measure => omega
      case rel => exact ⟨pos + 1, hit2, hbw2, by omega⟩
    · have hnx : ∀ ty, (Instr.next (.pointer (some ⟨w.heap.size, 0, none⟩)) true ty).run Tryz.prog wr = _ := fun ty => Lib.run_next_end_at wr w.heap.size s pos ty hit hps
      go_wp2
      go_ret
      exact ⟨rfl, hbw⟩
theorem GBad.calls (a0 : ByteArray) (r : Bool) (w : World) (h : GBad.f a0 = some r) :
    Calls Tryz.prog 259 #[.string a0, .func (.func 260) #[] #[]] w fun e w' => e = .returned (.bool r) ∧ Below w.heap.size w w' := by
  unfold GBad.f at h
  split at h
  · rename_i hs
    obtain rfl := Option.some.inj h
    have cI := fun W : World => GBad.inner a0 hs W
    have cF : ∀ W : World, Calls Tryz.prog 326 #[.string a0, .func (.func 260) #[] #[]] W fun e w' => e = .returned (.int .i64 (-1)) ∧ Below W.heap.size W w' := by
      intro W
      have C := Aside0.mk (cI W)
      clear cI hs
      go_enter Tryz.func326, Tryz.ntmps326
      go_wp2_with (go_at_call 369; (with_reducible refine C.out.mono ?_); rintro e w' ⟨rfl, hb⟩)
      go_ret
      exact ⟨rfl, hb⟩
    have C := Aside0.mk (cF w)
    clear cI cF hs
    go_enter Tryz.func259, Tryz.ntmps259
    go_wp2_with (go_at_call 326; (with_reducible refine C.out.mono ?_); rintro e w' ⟨rfl, hb⟩)
    go_ret
    exact ⟨rfl, hb⟩
  · cases h
def RTrim.signs : List UInt8 := [97, 98, 99, 100, 101, 102, 103, 104, 105, 106, 107, 108, 109, 110, 111, 112, 113, 114, 115, 116, 117, 118, 119, 120, 121, 122, 48, 49, 50, 51, 52, 53, 54, 55, 56, 57, 46, 45, 95]
def RTrim.f (a0 : ByteArray) (a1 : ByteArray) : Option (ByteArray) := if a1.data.toList = RTrim.signs then (if a0.size ≤ 9223372036854775807 then (some (⟨(Lib.trimS a0.data.toList RTrim.signs).toArray⟩ : ByteArray)) else (none)) else (none)
theorem RTrim.calls (a0 : ByteArray) (a1 : ByteArray) (r : ByteArray) (w : World) (h : RTrim.f a0 a1 = some r) :
    Calls Tryz.prog 149 #[.string a0, .string a1] w fun e w' => e = .returned (.string r) ∧ Below w.heap.size w w' := by
  unfold RTrim.f at h
  split at h
  · rename_i h1
    split at h
    · rename_i h2
      obtain rfl := Option.some.inj h
      have h3 := Any.strings_Trim_laid Go.Proofs.Tryz.lays160 (by kernel_rfl) a0 a1 w h2 (by
        have : a1.data.toList.length = 39 := by rw [h1]; rfl
        have h4 : a1.size = a1.data.toList.length := by rw [Array.length_toList]; rfl
        omega) (by rw [h1]; exact ascii_of_all (by decide))
      rw [h1] at h3
      exact h3
    · cases h
  · cases h
def okn (l : List UInt8) : Bool := !(l == []) && !(l == [46]) && !(l == [46, 46]) && decide (l.length ≤ 11) && l.all (fun b => GBad.signs.contains b)
theorem RTrim.dw (p : UInt8 → Bool) : ∀ l : List UInt8, l.dropWhile p = [] ↔ ∀ x ∈ l, p x = true
  | [] => by simp
  | a :: l => by
    cases h : p a with
    | true => simp [List.dropWhile, h, RTrim.dw p l]
    | false => simp [List.dropWhile, h]
theorem RTrim.empty (l : List UInt8) : (Lib.trimS l RTrim.signs == []) = l.all (fun b => GBad.signs.contains b) := by
  have key : Lib.trimS l RTrim.signs = [] ↔ l.all (fun b => GBad.signs.contains b) = true := by
    show Lib.trimS l GBad.signs = [] ↔ _
    unfold Lib.trimS Lib.trimLeftS Lib.trimRightS
    simp only [RTrim.dw, List.mem_reverse, List.all_eq_true]
    constructor
    · intro h x hx
      by_cases hc : GBad.signs.contains x = true
      · exact hc
      · have hx' : x ∈ l.reverse.dropWhile (GBad.signs.contains ·) := by
          have hs : x ∈ l.reverse.takeWhile (GBad.signs.contains ·) ++ l.reverse.dropWhile (GBad.signs.contains ·) := by
            rw [List.takeWhile_append_dropWhile]; exact List.mem_reverse.2 hx
          rcases List.mem_append.1 hs with h1 | h1
          · exact absurd (List.all_takeWhile (l := l.reverse) (p := (GBad.signs.contains ·)) |> List.all_eq_true.1 |> (· x h1)) hc
          · exact h1
        exact h x hx'
    · intro h x hx
      exact h x (List.mem_reverse.1 ((List.dropWhile_sublist _).subset hx))
  cases h : l.all (fun b => GBad.signs.contains b) with
  | true => rw [key.2 h]; rfl
  | false => exact beq_eq_false_iff_ne.2 (fun e => by rw [key.1 e] at h; cases h)
set_option maxHeartbeats 8000000 in
set_option maxRecDepth 100000 in
theorem right_calls (a0 : ByteArray) (w : World) :
    Calls Tryz.prog 174 #[.string a0] w fun e w' => e = .returned (.bool (okn a0.data.toList)) ∧ Below w.heap.size w w' := by
  · have hB := Below.refl w.heap.size w
    have hl : a0.toList = a0.data.toList := Lib.toList_data a0
    have hsz : a0.size = a0.data.toList.length := Lib.size_eq a0
    by_cases h1 : a0.toList = []
    · have b1 : (a0.toList == ([] : List UInt8)) = true := beq_iff_eq.2 h1
      have hok : okn a0.data.toList = false := by rw [← hl, h1]; rfl
      rw [hok]
      clear hl hsz h1 hok
      go_enter Tryz.func174, Tryz.ntmps174
      go_wp2
      go_ret
      exact ⟨rfl, hB⟩
    · have b1 : (a0.toList == ([] : List UInt8)) = false := beq_eq_false_iff_ne.2 h1
      by_cases h2 : a0.toList = [46]
      · have b2 : (a0.toList == ([46] : List UInt8)) = true := beq_iff_eq.2 h2
        have hok : okn a0.data.toList = false := by rw [← hl, h2]; rfl
        rw [hok]
        clear hl hsz h1 h2 hok
        go_enter Tryz.func174, Tryz.ntmps174
        go_wp2
        go_ret
        exact ⟨rfl, hB⟩
      · have b2 : (a0.toList == ([46] : List UInt8)) = false := beq_eq_false_iff_ne.2 h2
        by_cases h3 : a0.toList = [46, 46]
        · have b3 : (a0.toList == ([46, 46] : List UInt8)) = true := beq_iff_eq.2 h3
          have hok : okn a0.data.toList = false := by rw [← hl, h3]; rfl
          rw [hok]
          clear hl hsz h1 h2 h3 hok
          go_enter Tryz.func174, Tryz.ntmps174
          go_wp2
          go_ret
          exact ⟨rfl, hB⟩
        · have b3 : (a0.toList == ([46, 46] : List UInt8)) = false := beq_eq_false_iff_ne.2 h3
          by_cases h4 : a0.size ≤ 11
          · have b4 : decide ((a0.size : Int) ≤ 11) = true := decide_eq_true (by omega)
            have hok : okn a0.data.toList = a0.data.toList.all (fun b => GBad.signs.contains b) := by
              unfold okn
              rw [← hl, b1, b2, b3, hl, ← hsz, decide_eq_true h4]
              rfl
            rw [hok]
            have ct := fun W : World => RTrim.calls a0 (⟨#[97, 98, 99, 100, 101, 102, 103, 104, 105, 106, 107, 108, 109, 110, 111, 112, 113, 114, 115, 116, 117, 118, 119, 120, 121, 122, 48, 49, 50, 51, 52, 53, 54, 55, 56, 57, 46, 45, 95]⟩ : ByteArray) (⟨(Lib.trimS a0.data.toList RTrim.signs).toArray⟩ : ByteArray) W (by
              unfold RTrim.f
              exact (if_pos (by rfl)).trans (if_pos (by omega)))
            have he : ((⟨(Lib.trimS a0.data.toList RTrim.signs).toArray⟩ : ByteArray).toList == ([] : List UInt8)) = a0.data.toList.all (fun b => GBad.signs.contains b) := by
              rw [Lib.toList_data]
              exact RTrim.empty _
            generalize (⟨(Lib.trimS a0.data.toList RTrim.signs).toArray⟩ : ByteArray) = T at *
            have CT := Aside0.mk ct
            have HB := Aside0.mk hB
            clear ct hB hok hl hsz h1 h2 h3 h4
            cases hall : a0.data.toList.all (fun b => GBad.signs.contains b) with
            | true =>
              rw [hall] at he
              have cg := fun W : World => GBad.calls a0 false W (by unfold GBad.f; rw [if_pos hall])
              have CG := Aside0.mk cg
              clear cg hall
              go_enter Tryz.func174, Tryz.ntmps174
              go_wp2_with (first | (go_at_call 149; (with_reducible refine (CT.out _).mono ?_); rintro e w' ⟨rfl, hb⟩; replace HB := Aside0.mk (HB.out.trans (hb.mono HB.out.size)); clear hb) | (go_at_call 259; (with_reducible refine (CG.out _).mono ?_); rintro e w' ⟨rfl, hb⟩; replace HB := Aside0.mk (HB.out.trans (hb.mono HB.out.size)); clear hb))
              go_ret
              exact ⟨rfl, HB.out⟩
            | false =>
              rw [hall] at he
              clear hall
              go_enter Tryz.func174, Tryz.ntmps174
              go_wp2_with (first | (go_at_call 149; (with_reducible refine (CT.out _).mono ?_); rintro e w' ⟨rfl, hb⟩; replace HB := Aside0.mk (HB.out.trans (hb.mono HB.out.size)); clear hb))
              go_ret
              exact ⟨rfl, HB.out⟩
          · have b4 : decide ((a0.size : Int) ≤ 11) = false := decide_eq_false (by omega)
            have hok : okn a0.data.toList = false := by
              unfold okn
              rw [← hsz, decide_eq_false h4]
              simp
            rw [hok]
            clear hl hsz h1 h2 h3 h4 hok
            go_enter Tryz.func174, Tryz.ntmps174
            go_wp2
            go_ret
            exact ⟨rfl, hB⟩
theorem hasPrefix (a : ByteArray) : ∃ t : Bool, (t = true → 1 ≤ a.size) ∧ ∀ w : World, Calls Tryz.prog 255 #[.string a, .string ⟨#[47]⟩] w fun e w' => e = .returned (.bool t) ∧ Below w.heap.size w w' := by
  by_cases h : 1 ≤ a.size
  · refine ⟨(a.extract 0 1).toList == [47], fun _ => h, fun w => ?_⟩
    have HB := Aside0.mk (Below.refl w.heap.size w)
    have c3b0 : decide ((1 : Int) ≤ (a.size : Int)) = true := decide_eq_true (by omega)
    have c3b1 : decide (1 ≤ a.size) = true := decide_eq_true h
    have c5b0 : ((1 : Int) ≤ (a.size : Int)) = True := eq_true (by omega)
    clear h
    go_enter Tryz.func255, Tryz.ntmps255
    go_wp2
    go_ret
    exact ⟨by first | rfl | (simp; done) | (simp [*]; done), HB.out⟩
  · refine ⟨false, fun h => (by cases h), fun w => ?_⟩
    have HB := Aside0.mk (Below.refl w.heap.size w)
    have c3b0 : decide ((1 : Int) ≤ (a.size : Int)) = false := decide_eq_false (by omega)
    have c3b1 : decide (1 ≤ a.size) = false := decide_eq_false h
    clear h
    go_enter Tryz.func255, Tryz.ntmps255
    go_wp2
    go_ret
    exact ⟨by first | rfl | (simp; done) | (simp [*]; done), HB.out⟩
theorem cutPrefix0 (a : ByteArray) : ∃ (r : ByteArray) (t : Bool), r.size ≤ a.size ∧ ∀ w : World, Calls Tryz.prog 171 #[.string a, .string ⟨#[47]⟩] w fun e w' => e = .returned (.tuple #[.string r, .bool t]) ∧ Below w.heap.size w w' := by
  obtain ⟨t, ht, c⟩ := hasPrefix a
  have C := fun w => Aside0.mk (c w)
  clear c
  cases t with
  | true =>
    have h := ht rfl
    refine ⟨a.extract 1 a.size, true, by rw [ByteArray.size_extract]; omega, fun w => ?_⟩
    have HB := Aside0.mk (Below.refl w.heap.size w)
    have c5b0 : ((1 : Int) ≤ (a.size : Int)) = True := eq_true (by omega)
    have c5b1 : decide ((1 : Int) ≤ (a.size : Int)) = true := decide_eq_true (by omega)
    clear h ht
    go_enter Tryz.func171, Tryz.ntmps171
    go_wp2_with (go_at_call 255; (with_reducible refine (C _).out.mono ?_); rintro e w' ⟨rfl, hb⟩; replace HB := Aside0.mk (HB.out.trans (hb.mono HB.out.size)); clear hb)
    go_ret2
    exact ⟨by first | rfl | (simp; done) | (simp [*]; done), HB.out⟩
  | false =>
    refine ⟨a, false, Nat.le_refl _, fun w => ?_⟩
    have HB := Aside0.mk (Below.refl w.heap.size w)
    clear ht
    go_enter Tryz.func171, Tryz.ntmps171
    go_wp2_with (go_at_call 255; (with_reducible refine (C _).out.mono ?_); rintro e w' ⟨rfl, hb⟩; replace HB := Aside0.mk (HB.out.trans (hb.mono HB.out.size)); clear hb)
    go_ret2
    exact ⟨by first | rfl | (simp; done) | (simp [*]; done), HB.out⟩
theorem cutPrefix (a : ByteArray) : ∃ (r : ByteArray) (t : Bool), r.size ≤ a.size ∧ ∀ w : World, Calls Tryz.prog 108 #[.string a, .string ⟨#[47]⟩] w fun e w' => e = .returned (.tuple #[.string r, .bool t]) ∧ Below w.heap.size w w' := by
  obtain ⟨r, t, hr, c⟩ := cutPrefix0 a
  refine ⟨r, t, hr, fun w => ?_⟩
  have C := fun w => Aside0.mk (c w)
  have HB := Aside0.mk (Below.refl w.heap.size w)
  clear c hr
  go_enter Tryz.func108, Tryz.ntmps108
  go_wp2_with (go_at_call 171; (with_reducible refine (C _).out.mono ?_); rintro e w' ⟨rfl, hb⟩; replace HB := Aside0.mk (HB.out.trans (hb.mono HB.out.size)); clear hb)
  go_ret2
  exact ⟨rfl, HB.out⟩

theorem odd_calls (a0 : ByteArray) (w : World) : Calls Tryz.prog 111 #[.string a0] w fun e w' => e = .returned (.bool (!okn a0.data.toList)) ∧ Below w.heap.size w w' := by
  have C := fun W : World => Aside0.mk (right_calls a0 W)
  have HB := Aside0.mk (Below.refl w.heap.size w)
  generalize okn a0.data.toList = t at *
  go_enter Tryz.func111, Tryz.ntmps111
  go_wp2_with (go_at_call 174; (with_reducible refine (C _).out.mono ?_); rintro e w' ⟨rfl, hb⟩; replace HB := Aside0.mk (HB.out.trans (hb.mono HB.out.size)); clear hb)
  go_ret
  exact ⟨rfl, HB.out⟩
theorem cell_below {w wx : World} (hb : Below w.heap.size w wx) (a : Addr) (h : a.block < w.heap.size) : wx.cell? a = w.cell? a := by
  unfold World.cell?
  rw [hb.block a.block h]
theorem index_calls (ad : Addr) (c0 : Nat) (l0 : List ByteArray) (w : World) (hblk : ad.block < w.heap.size) (hmax : l0.length ≤ 4294967296) (hcell : ∀ (j : Nat) x, l0[j]? = some x → w.cell? (ad.add j) = some (.string x)) :
    Calls Tryz.prog 173 #[.slice (some ad) l0.length c0, .func (.func 111) #[] #[]] w fun e w' => (∃ i : Int, e = .returned (.int .i64 i) ∧ decide (0 ≤ i) = l0.any fun x => !okn x.data.toList) ∧ Below w.heap.size w w' := by
  have HR := Aside0.mk hcell
  have HK := Aside0.mk hblk
  clear hcell hblk
  go_enter Tryz.func173, Tryz.ntmps173
  go_wp2
  go_loopg [8] l0.length (fun kq v8 wx => ∃ i : Nat, v8 = .int .i64 (i : Int) ∧ i ≤ l0.length ∧ l0.length ≤ i + kq ∧ Aside0 (((l0.drop i).any fun x => !okn x.data.toList) = l0.any fun x => !okn x.data.toList) ∧ Aside0 (Below w.heap.size w wx))
  case atStart => exact ⟨0, rfl, Nat.zero_le _, by omega, ⟨rfl⟩, ⟨Below.refl _ w⟩⟩
  case round =>
    obtain ⟨i, rfl, hi, hfu, HA, HB⟩ := hrel
    by_cases hlt : i < l0.length
    · obtain ⟨k1, rfl⟩ : ∃ k1, gk = k1 + 1 := ⟨gk - 1, by omega⟩
      have hd : l0.drop i = l0[i] :: l0.drop (i + 1) := List.drop_eq_getElem_cons hlt
      have hh := HA.out
      rw [hd, List.any_cons] at hh
      clear HA hd
      have hltI : decide ((i : Int) < (l0.length : Int)) = true := decide_eq_true (by omega)
      have p1 : 0 ≤ (i : Int) := by omega
      have q1 : (i : Int) < (l0.length : Int) := by omega
      have hx : wr.cell? (ad.add i) = some (.string l0[i]) := by
        rw [cell_below HB.out _ (by unfold Addr.add; split <;> exact HK.out)]
        exact HR.out i _ (List.getElem?_eq_getElem hlt)
      generalize l0[i] = X at *
      have hwr : wrap64 ((i : Int) + 1) = ((i + 1 : Nat) : Int) := by
        simp only [wrap64]
        omega
      have C := Aside0.mk (odd_calls X wr)
      have HH := Aside0.mk hh
      clear hh
      replace p1 := eq_true p1
      replace q1 := eq_true q1
      generalize (!okn X.data.toList) = t at *
      cases t with
      | true =>
        go_wp2_with (go_at_call 111; (with_reducible refine C.out.mono ?_); rintro e w' ⟨rfl, hb⟩)
        go_ret
        exact ⟨⟨(i : Int), rfl, by rw [← HH.out]; simp⟩, HB.out.trans (hb.mono HB.out.size)⟩
      | false =>
        go_wp2_with (go_at_call 111; (with_reducible refine C.out.mono ?_); rintro e w' ⟨rfl, hb⟩)
        go_roundg k1
        case measure => omega
        case rel => exact ⟨i + 1, by first | rfl | (rw [hwr]; done), by omega, by omega, ⟨by simpa using HH.out⟩, ⟨HB.out.trans (hb.mono HB.out.size)⟩⟩
    · have hltI : decide ((i : Int) < (l0.length : Int)) = false := decide_eq_false (by omega)
      have hh := HA.out
      rw [List.drop_eq_nil_of_le (by omega)] at hh
      go_wp2
      go_ret
      exact ⟨⟨-1, rfl, by rw [← hh]; rfl⟩, HB.out⟩
theorem contains_calls (ad : Addr) (c0 : Nat) (l0 : List ByteArray) (w : World) (hblk : ad.block < w.heap.size) (hmax : l0.length ≤ 4294967296) (hcell : ∀ (j : Nat) x, l0[j]? = some x → w.cell? (ad.add j) = some (.string x)) :
    Calls Tryz.prog 110 #[.slice (some ad) l0.length c0, .func (.func 111) #[] #[]] w fun e w' => e = .returned (.bool (l0.any fun x => !okn x.data.toList)) ∧ Below w.heap.size w w' := by
  have C := Aside0.mk (index_calls ad c0 l0 w hblk hmax hcell)
  clear hblk hmax hcell
  generalize (l0.any fun x => !okn x.data.toList) = t at *
  generalize l0.length = n at *
  go_enter Tryz.func110, Tryz.ntmps110
  go_wp2_with (go_at_call 173; (with_reducible refine C.out.mono ?_); rintro e w' ⟨⟨i, rfl, hi⟩, hb⟩)
  go_ret
  subst hi
  exact ⟨rfl, hb⟩
theorem genSplit_calls (a0 : ByteArray) (h4 : a0.size < 4294967281) : ∃ l : List ByteArray, l.length ≤ 4294967296 ∧ ∀ w : World,
    Calls Tryz.prog 172 #[.string a0, .string ⟨#[47]⟩, .int .i64 0, .int .i64 (-1)] w fun e w' => e = .returned (.slice (some ⟨w.heap.size, 0, none⟩) l.length l.length) ∧ Below w.heap.size w w' ∧ w.heap.size < w'.heap.size ∧
      ∀ (j : Nat) x, l[j]? = some x → w'.cell? (Addr.add ⟨w.heap.size, 0, none⟩ j) = some (.string x) := by
  have hle := Lib.countB_le ⟨#[47]⟩ (by decide) a0.size a0 (Nat.le_refl _)
  have hlen := Lib.splitB_all ⟨#[47]⟩ (by decide) 0 _ a0 rfl
  refine ⟨Lib.splitB ⟨#[47]⟩ 0 (Lib.countB a0 ⟨#[47]⟩) a0, by omega, fun w => ?_⟩
  have c := Any.strings_genSplit_core Go.Proofs.Tryz.lays221 (by kernel_rfl) a0 ⟨#[47]⟩ 0 (-1) (Lib.countB a0 ⟨#[47]⟩ + 1) w h4 (by decide) (by decide)
    (fun x c _ => (Go.Proofs.Tryz.strings_Index_one x 47 _).mono fun e w' ⟨he, hw⟩ => ⟨by rw [he]; exact congrArg (fun z => Ending.returned (.int .i64 z)) (Lib.index_one _ _).symm, hw⟩)
    ((Go.Proofs.Tryz.strings_Count_one a0 47 w).mono fun e w' ⟨he, hw⟩ => ⟨by rw [he]; exact congrArg (fun z : Nat => Ending.returned (.int .i64 z)) (Lib.count_one _ _).symm, hw⟩)
    (by decide) (by decide) (by rw [if_pos (by decide)]; omega)
  rw [Nat.add_sub_cancel, hlen] at c
  have e2 : Lib.cellsOf (Lib.splitB ⟨#[47]⟩ 0 (Lib.countB a0 ⟨#[47]⟩) a0) (Lib.countB a0 ⟨#[47]⟩ + 1) = ((Lib.splitB ⟨#[47]⟩ 0 (Lib.countB a0 ⟨#[47]⟩) a0).map Value.string).toArray := by rw [← hlen]; exact Lib.cellsOf_full _
  rw [e2, ← hlen] at c
  generalize Lib.splitB ⟨#[47]⟩ 0 (Lib.countB a0 ⟨#[47]⟩) a0 = l at *
  refine c.mono fun e w' ⟨he, hw⟩ => ⟨he, by rw [hw]; exact (Below.refl _ w).alloc (Nat.le_refl _) _, by rw [hw]; show w.heap.size < (w.heap.push _).size; rw [Array.size_push]; exact Nat.lt_succ_self _, fun j x hj => ?_⟩
  rw [hw]
  have hh := heap_alloc_new w (.cells (l.map Value.string).toArray (Tryz.lays221_ren.t 9))
  have ha : Addr.add ⟨w.heap.size, 0, none⟩ j = ⟨w.heap.size, j, none⟩ := by unfold Addr.add; split <;> simp_all
  rw [ha]
  unfold World.cell?
  simp only [hh]
  simp [hj]
theorem split0_calls (a0 : ByteArray) (h4 : a0.size < 4294967281) : ∃ l : List ByteArray, l.length ≤ 4294967296 ∧ ∀ w : World,
    Calls Tryz.prog 109 #[.string a0, .string ⟨#[47]⟩] w fun e w' => e = .returned (.slice (some ⟨w.heap.size, 0, none⟩) l.length l.length) ∧ Below w.heap.size w w' ∧ w.heap.size < w'.heap.size ∧
      ∀ (j : Nat) x, l[j]? = some x → w'.cell? (Addr.add ⟨w.heap.size, 0, none⟩ j) = some (.string x) := by
  obtain ⟨l, hl, c⟩ := genSplit_calls a0 h4
  refine ⟨l, hl, fun w => ?_⟩
  have C := Aside0.mk (c w)
  clear c hl h4
  go_enter Tryz.func109, Tryz.ntmps109
  go_wp2_with (go_at_call 172; (with_reducible refine C.out.mono ?_); rintro e w' ⟨rfl, hb⟩)
  go_ret
  exact ⟨rfl, hb⟩
theorem split_calls (a0 : ByteArray) : ∃ n : Int, ∀ w : World, Calls Tryz.prog 55 #[.string a0] w fun e w' => (∃ v : Value, e = .returned (.tuple #[v, .int .i64 n])) ∧ Below w.heap.size w w' := by
  obtain ⟨r, t, hr, cp⟩ := cutPrefix a0
  have CP := fun W : World => Aside0.mk (cp W)
  clear cp
  cases t with
  | false =>
    refine ⟨4, fun w => ?_⟩
    have HB := Aside0.mk (Below.refl w.heap.size w)
    clear hr
    go_enter Tryz.func55, Tryz.ntmps55
    go_wp2_with (go_at_call 108; (with_reducible refine (CP _).out.mono ?_); rintro e w' ⟨rfl, hb⟩; replace HB := Aside0.mk (HB.out.trans (hb.mono HB.out.size)); clear hb)
    go_ret2
    exact ⟨⟨_, rfl⟩, HB.out⟩
  | true =>
    by_cases h255 : a0.size ≤ 255
    · have d255 : decide ((a0.size : Int) > 255) = false := decide_eq_false (by omega)
      have e255 : decide ((255 : Int) < (a0.size : Int)) = false := decide_eq_false (by omega)
      by_cases hr0 : r.toList = []
      · have b0 : (r.toList == ([] : List UInt8)) = true := beq_iff_eq.2 hr0
        refine ⟨0, fun w => ?_⟩
        have HB := Aside0.mk (Below.refl w.heap.size w)
        clear hr h255 hr0
        go_enter Tryz.func55, Tryz.ntmps55
        go_wp2_with (go_at_call 108; (with_reducible refine (CP _).out.mono ?_); rintro e w' ⟨rfl, hb⟩; replace HB := Aside0.mk (HB.out.trans (hb.mono HB.out.size)); clear hb)
        go_ret2
        exact ⟨⟨_, rfl⟩, HB.out⟩
      · have b0 : (r.toList == ([] : List UInt8)) = false := beq_eq_false_iff_ne.2 hr0
        obtain ⟨l, hl, cs⟩ := split0_calls r (by omega)
        have CS := fun W : World => Aside0.mk (cs W)
        have CC := fun (ad : Addr) (c0 : Nat) (W : World) h1 h3 => Aside0.mk (contains_calls ad c0 l W h1 hl h3)
        clear cs hr h255 hr0 hl
        cases ht : l.any fun x => !okn x.data.toList with
        | true =>
          refine ⟨4, fun w => ?_⟩
          rw [ht] at CC
          have HB := Aside0.mk (Below.refl w.heap.size w)
          go_enter Tryz.func55, Tryz.ntmps55
          go_wp2_with (first
            | (go_at_call 108; (with_reducible refine (CP _).out.mono ?_); rintro e w' ⟨rfl, hb⟩; replace HB := Aside0.mk (HB.out.trans (hb.mono HB.out.size)); clear hb)
            | (go_at_call 109; (with_reducible refine (CS _).out.mono ?_); rintro e w2 ⟨rfl, hb, hlt, hcell⟩; replace HB := Aside0.mk (HB.out.trans (hb.mono HB.out.size)); clear hb)
            | (go_at_call 110; (with_reducible refine (CC _ _ _ hlt hcell).out.mono ?_); rintro e w3 ⟨rfl, hb⟩; replace HB := Aside0.mk (HB.out.trans (hb.mono HB.out.size)); clear hb))
          go_ret2
          exact ⟨⟨_, rfl⟩, HB.out⟩
        | false =>
          refine ⟨0, fun w => ?_⟩
          rw [ht] at CC
          have HB := Aside0.mk (Below.refl w.heap.size w)
          go_enter Tryz.func55, Tryz.ntmps55
          go_wp2_with (first
            | (go_at_call 108; (with_reducible refine (CP _).out.mono ?_); rintro e w' ⟨rfl, hb⟩; replace HB := Aside0.mk (HB.out.trans (hb.mono HB.out.size)); clear hb)
            | (go_at_call 109; (with_reducible refine (CS _).out.mono ?_); rintro e w2 ⟨rfl, hb, hlt, hcell⟩; replace HB := Aside0.mk (HB.out.trans (hb.mono HB.out.size)); clear hb)
            | (go_at_call 110; (with_reducible refine (CC _ _ _ hlt hcell).out.mono ?_); rintro e w3 ⟨rfl, hb⟩; replace HB := Aside0.mk (HB.out.trans (hb.mono HB.out.size)); clear hb))
          go_ret2
          exact ⟨⟨_, rfl⟩, HB.out⟩
    · have d255 : decide ((a0.size : Int) > 255) = true := decide_eq_true (by omega)
      have e255 : decide ((255 : Int) < (a0.size : Int)) = true := decide_eq_true (by omega)
      refine ⟨4, fun w => ?_⟩
      have HB := Aside0.mk (Below.refl w.heap.size w)
      clear hr h255
      go_enter Tryz.func55, Tryz.ntmps55
      go_wp2_with (go_at_call 108; (with_reducible refine (CP _).out.mono ?_); rintro e w' ⟨rfl, hb⟩; replace HB := Aside0.mk (HB.out.trans (hb.mono HB.out.size)); clear hb)
      go_ret2
      exact ⟨⟨_, rfl⟩, HB.out⟩
theorem below_box2 {w w' : World} {o p : Obj} (hb : Below ((w.alloc o).alloc p).heap.size ((w.alloc o).alloc p) w') : Below w.heap.size w w' := by
  have b1 := (Below.refl w.heap.size w).alloc (Nat.le_refl _) o
  have b2 := b1.alloc b1.size p
  exact b2.trans (hb.mono b2.size)
theorem begin_nil (w : World) : Calls Tryz.prog 18 #[.pointer none] w fun e w' => e = .returned (.tuple #[.pointer none, .int .i64 1]) ∧ w' = w := by
  go_enter Tryz.func18, Tryz.ntmps18
  go_wp2
  go_ret2
  exact ⟨rfl, rfl⟩
theorem change_nil (v : Value) (w : World) : Calls Tryz.prog 28 #[.pointer none, v] w fun e w' => e = .returned (.int .i64 1) ∧ w' = w := by
  have C := fun W : World => Aside0.mk (begin_nil W)
  go_enter Tryz.func28, Tryz.ntmps28
  go_wp2_with (go_at_call 18; (with_reducible refine (C _).out.mono ?_); rintro e w' ⟨rfl, rfl⟩)
  go_ret
  exact ⟨rfl, rfl⟩
theorem link_nil (a b : ByteArray) (n : Int) (CN : ∀ W : World, Calls Tryz.prog 27 #[.string a, .string b] W fun e w' => e = .returned (.int .i64 n) ∧ Below W.heap.size W w') (w : World) :
    Calls Tryz.prog 11 #[.pointer none, .string a, .string b] w fun e w' => e = .returned (.int .i64 1) ∧ Below w.heap.size w w' := by
  have CN := fun W : World => Aside0.mk (CN W)
  have CC := fun (v : Value) (W : World) => Aside0.mk (change_nil v W)
  go_enter Tryz.func11, Tryz.ntmps11
  go_wp2_with (first | (go_at_call 27; (with_reducible refine (CN _).out.mono ?_); rintro e w' ⟨rfl, hb⟩) | (go_at_call 28; (with_reducible refine (CC _ _).out.mono ?_); rintro e w' ⟨rfl, rfl⟩))
  all_goals go_ret
  all_goals exact ⟨rfl, below_box2 hb⟩
theorem rename_nil (a b : ByteArray) (n : Int) (CN : ∀ W : World, Calls Tryz.prog 27 #[.string a, .string b] W fun e w' => e = .returned (.int .i64 n) ∧ Below W.heap.size W w') (w : World) :
    Calls Tryz.prog 12 #[.pointer none, .string a, .string b] w fun e w' => e = .returned (.int .i64 1) ∧ Below w.heap.size w w' := by
  have CN := fun W : World => Aside0.mk (CN W)
  have CC := fun (v : Value) (W : World) => Aside0.mk (change_nil v W)
  go_enter Tryz.func12, Tryz.ntmps12
  go_wp2_with (first | (go_at_call 27; (with_reducible refine (CN _).out.mono ?_); rintro e w' ⟨rfl, hb⟩) | (go_at_call 28; (with_reducible refine (CC _ _).out.mono ?_); rintro e w' ⟨rfl, rfl⟩))
  all_goals go_ret
  all_goals exact ⟨rfl, below_box2 hb⟩
theorem names_calls (a b : ByteArray) (CS : ∀ a : ByteArray, ∃ n : Int, ∀ W : World, Calls Tryz.prog 55 #[.string a] W fun e w' => (∃ v : Value, e = .returned (.tuple #[v, .int .i64 n])) ∧ Below W.heap.size W w') :
    ∃ n : Int, ∀ w : World, Calls Tryz.prog 27 #[.string a, .string b] w fun e w' => e = .returned (.int .i64 n) ∧ Below w.heap.size w w' := by
  obtain ⟨n, ca⟩ := CS a
  obtain ⟨m, cb⟩ := CS b
  refine ⟨if n = 0 then m else n, fun w => ?_⟩
  have CA := fun W : World => Aside0.mk (ca W)
  have CB := fun W : World => Aside0.mk (cb W)
  have HB := Aside0.mk (Below.refl w.heap.size w)
  clear ca cb CS
  by_cases hn : n = 0
  · subst hn
    rw [if_pos rfl]
    go_enter Tryz.func27, Tryz.ntmps27
    go_wp2_with (first | (go_at_call 55; (with_reducible refine (CA _).out.mono ?_); rintro e w' ⟨⟨v, rfl⟩, hb⟩; replace HB := Aside0.mk (HB.out.trans (hb.mono HB.out.size)); clear hb) | (go_at_call 55; (with_reducible refine (CB _).out.mono ?_); rintro e w' ⟨⟨v, rfl⟩, hb⟩; replace HB := Aside0.mk (HB.out.trans (hb.mono HB.out.size)); clear hb))
    go_ret
    exact ⟨rfl, HB.out⟩
  · rw [if_neg hn]
    go_enter Tryz.func27, Tryz.ntmps27
    go_wp2_with (first | (go_at_call 55; (with_reducible refine (CA _).out.mono ?_); rintro e w' ⟨⟨v, rfl⟩, hb⟩; replace HB := Aside0.mk (HB.out.trans (hb.mono HB.out.size)); clear hb))
    go_ret
    exact ⟨rfl, HB.out⟩
end Go.Proofs.YtcbpgpfkpokgfaaGreatDoor.Names
