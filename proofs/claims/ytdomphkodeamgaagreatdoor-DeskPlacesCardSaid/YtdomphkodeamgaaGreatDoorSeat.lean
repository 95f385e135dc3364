/- What the runner is told of this program: its types, its bodies, what the library does. No conditions. -/
import Derived.Test.YtdomphkodeamgaaGreatDoorVintC
import Derived.Test.YtdomphkodeamgaaGreatDoorShelf
import Derived.Test.YtdomphkodeamgaaGreatDoorShelfK
import Derived.Test.YtdomphkodeamgaaGreatDoorProg
namespace Go.Proofs.YtdomphkodeamgaaGreatDoor
set_option maxRecDepth 100000
open Go Go.Vint Go.RowKit Go.Maps Go.Sort Go.Shelf

noncomputable abbrev PP : Program := Tryz.prog
theorem sortsA (m : Nat) : AnyZI.SortsIn PP Tryz.sortedA_ren Fence.wide m :=
  ⟨fun blk off cap ss W hH hblk hsz => callsIn_wide.2 (AnyM.slices_Sort_int Tryz.sortA blk off cap ss W hH hblk hsz),
   fun p cap W => callsIn_wide.2 (AnyM.slices_Sort_int_none Tryz.sortA p cap W)⟩
theorem sorted_told : SortedTold PP 126 173 3 := by
  intro Bm b nn D0 R w hBm hcell hown hmax hbytes
  refine (callsIn_wide (n := 5)).1 ?_
  have hseq : SeqGives Fence.wide 2 PP 173 #[.pointer (some ⟨Bm, 0, none⟩)] encZ (fun ss => ss.Perm (intKeys D0)) (Maps.size D0) w :=
    AnyZI.keys_gives (ρ := Tryz.keysA_ren) { Tryz.keysA with } Fence.wide _ trivial rfl (by omega) Bm b nn D0 _ hBm hcell hown
  have cS := AnyZI.sorted_in Tryz.sortedA Fence.wide 5 trivial trivial trivial trivial rfl (by omega) (sortsA _) (enters_of Tryz.func172 (by kernel_rfl) rfl) 173 #[.pointer (some ⟨Bm, 0, none⟩)] trivial (enters_of Tryz.func173 (by kernel_rfl) rfl) _ _ hmax hbytes _ hseq
  exact cS
noncomputable def baseHook (f : FuncId) : Option (List V → H → Option (V × H)) :=
  Bool.casesOn (Nat.beq f 104) (Bool.casesOn (Nat.beq f 114) (Bool.casesOn (Nat.beq f 126) (Bool.casesOn (Nat.beq f 325) (Bool.casesOn (Nat.beq f 370) (Bool.casesOn (Nat.beq f 287) (Bool.casesOn (Nat.beq f 237) (Bool.casesOn (Nat.beq f 313) none (some (hMake0 5))) (some hNoEscape)) (some hCompare)) (some hIndexByte)) (some hCount)) (some (hSorted 173 3))) (some hRepeat)) (some hTrim)
theorem baseHook_good : ∀ f g, baseHook f = some g → GoodHook PP f g := by
  intro f g h
  unfold baseHook at h
  cases h1 : Nat.beq f 104 with
  | true =>
    rw [h1] at h; cases h; rw [beq_eq h1]
    exact hTrim_good (fun s c hc w hs => Tryz.strings_Trim_one s c hc w hs) (enters_of Tryz.func104 (by kernel_rfl) rfl)
  | false =>
  rw [h1] at h
  have h : (Bool.casesOn (Nat.beq f 114) (Bool.casesOn (Nat.beq f 126) (Bool.casesOn (Nat.beq f 325) (Bool.casesOn (Nat.beq f 370) (Bool.casesOn (Nat.beq f 287) (Bool.casesOn (Nat.beq f 237) (Bool.casesOn (Nat.beq f 313) none (some (hMake0 5))) (some hNoEscape)) (some hCompare)) (some hIndexByte)) (some hCount)) (some (hSorted 173 3))) (some hRepeat) : Option (List V → H → Option (V × H))) = some g := h
  cases h2 : Nat.beq f 114 with
  | true =>
    rw [h2] at h; cases h; rw [beq_eq h2]
    exact hRepeat_good (fun s c w hc hl => Tryz.strings_Repeat s c w hc hl) (enters_of Tryz.func114 (by kernel_rfl) rfl)
  | false =>
  rw [h2] at h
  have h : (Bool.casesOn (Nat.beq f 126) (Bool.casesOn (Nat.beq f 325) (Bool.casesOn (Nat.beq f 370) (Bool.casesOn (Nat.beq f 287) (Bool.casesOn (Nat.beq f 237) (Bool.casesOn (Nat.beq f 313) none (some (hMake0 5))) (some hNoEscape)) (some hCompare)) (some hIndexByte)) (some hCount)) (some (hSorted 173 3)) : Option (List V → H → Option (V × H))) = some g := h
  cases h3 : Nat.beq f 126 with
  | true =>
    rw [h3] at h; cases h; rw [beq_eq h3]
    exact hSorted_good (by kernel_rfl) ⟨(PP.info? 3).get (by kernel_rfl), by kernel_rfl, by kernel_rfl⟩ sorted_told (enters_of Tryz.func126 (by kernel_rfl) rfl)
  | false =>
  rw [h3] at h
  have h : (Bool.casesOn (Nat.beq f 325) (Bool.casesOn (Nat.beq f 370) (Bool.casesOn (Nat.beq f 287) (Bool.casesOn (Nat.beq f 237) (Bool.casesOn (Nat.beq f 313) none (some (hMake0 5))) (some hNoEscape)) (some hCompare)) (some hIndexByte)) (some hCount) : Option (List V → H → Option (V × H))) = some g := h
  cases h4 : Nat.beq f 325 with
  | true =>
    rw [h4] at h; cases h; rw [beq_eq h4]
    exact extern_good Tryz.func325 (by kernel_rfl) (by kernel_rfl) (by kernel_rfl) (by kernel_rfl) hCount_runs
  | false =>
  rw [h4] at h
  have h : (Bool.casesOn (Nat.beq f 370) (Bool.casesOn (Nat.beq f 287) (Bool.casesOn (Nat.beq f 237) (Bool.casesOn (Nat.beq f 313) none (some (hMake0 5))) (some hNoEscape)) (some hCompare)) (some hIndexByte) : Option (List V → H → Option (V × H))) = some g := h
  cases h5 : Nat.beq f 370 with
  | true =>
    rw [h5] at h; cases h; rw [beq_eq h5]
    exact extern_good Tryz.func370 (by kernel_rfl) (by kernel_rfl) (by kernel_rfl) (by kernel_rfl) hIndexByte_runs
  | false =>
  rw [h5] at h
  have h : (Bool.casesOn (Nat.beq f 287) (Bool.casesOn (Nat.beq f 237) (Bool.casesOn (Nat.beq f 313) none (some (hMake0 5))) (some hNoEscape)) (some hCompare) : Option (List V → H → Option (V × H))) = some g := h
  cases h6 : Nat.beq f 287 with
  | true =>
    rw [h6] at h; cases h; rw [beq_eq h6]
    exact extern_good Tryz.func287 (by kernel_rfl) (by kernel_rfl) (by kernel_rfl) (by kernel_rfl) hCompare_runs
  | false =>
  rw [h6] at h
  have h : (Bool.casesOn (Nat.beq f 237) (Bool.casesOn (Nat.beq f 313) none (some (hMake0 5))) (some hNoEscape) : Option (List V → H → Option (V × H))) = some g := h
  cases h7 : Nat.beq f 237 with
  | true =>
    rw [h7] at h; cases h; rw [beq_eq h7]
    exact extern_ef_good Tryz.func237 (by kernel_rfl) (by kernel_rfl) (by kernel_rfl) (by kernel_rfl) (fun xs h v h' e φ w I hf => hNoEscape_ef I hf e)
  | false =>
  rw [h7] at h
  have h : (Bool.casesOn (Nat.beq f 313) none (some (hMake0 5)) : Option (List V → H → Option (V × H))) = some g := h
  cases h8 : Nat.beq f 313 with
  | true =>
    rw [h8] at h; cases h; rw [beq_eq h8]
    exact extern_ef_good Tryz.func313 (by kernel_rfl) (by kernel_rfl) (by kernel_rfl) (e := Extern.BytealgMakeNoZero.makeNoZero #[3] #[135]) (by kernel_rfl) (hMake0_ef (by kernel_rfl) ⟨(PP.info? 5).get (by kernel_rfl), by kernel_rfl, by kernel_rfl⟩)
  | false => rw [h8] at h; cases h
noncomputable def lvT : T Nat := (.n (.n (.n (.n (.n .e (.t 19) .e .e) (.n (.t 32819) (.t 19) .e .e) (.n (.t 83) .e .e .e) (.n (.t 538976221) .e .e .e)) (.n (.n (.t 21) (.t 19) .e .e) (.n (.t 557307) (.t 5) .e .e) (.n (.t 5) (.t 0) .e .e) (.n (.t 21268317252094917911888073248812900111) .e .e .e)) (.n (.n (.t 65757) (.t 2146367) .e .e) (.n (.t 7) (.t 66483) .e .e) (.n (.t 8211) .e .e .e) (.n (.t 93) .e .e .e)) (.n (.n (.t 18926360545560270798639) (.t 5) .e .e) (.n (.t 21) (.t 5) .e .e) (.n (.t 211106240921661) .e .e .e) (.n (.t 7) .e .e .e))) (.n (.n (.n (.t 16785079) (.t 991277) .e .e) (.n (.t 2147545197) (.t 85) .e .e) (.n (.t 563) .e .e .e) (.n (.t 5) .e .e .e)) (.n (.n (.t 144150372716646387) (.t 1821) .e .e) (.n (.t 19) (.t 21) .e .e) (.n (.t 499) .e .e .e) (.n (.t 16661) .e .e .e)) (.n (.n (.t 536871101) (.t 51) .e .e) (.n (.t 17592186044925) .e .e .e) (.n (.t 32915) .e .e .e) (.n (.t 36887) .e .e .e)) (.n (.n (.t 35184376872991) (.t 9672077071) .e .e) (.n (.t 21990358909939) (.t 4339) .e .e) (.n (.t 29) .e .e .e) (.n (.t 1037) .e .e .e))) (.n (.n (.n (.t 304978332659) (.t 21) .e .e) (.n (.t 279037) (.t 32829) .e .e) (.n (.t 19) .e .e .e) (.n (.t 2417851711569023150878407) .e .e .e)) (.n (.n (.t 122925) (.t 65735) .e .e) (.n (.t 285) .e .e .e) (.n (.t 537428979) .e .e .e) (.n (.t 33019) .e .e .e)) (.n (.n (.t 67109245) (.t 61) .e .e) (.n (.t 17181970547) (.t 19) .e .e) (.n (.t 19) .e .e .e) (.n (.t 1126037349732319) .e .e .e)) (.n (.n (.t 19) (.t 5) .e .e) (.n (.t 19) .e .e .e) (.n (.t 3) .e .e .e) (.n (.t 19) .e .e .e))) (.n (.n (.n (.t 264135) (.t 261) .e .e) (.n (.t 4294967539) (.t 19) .e .e) (.n (.t 8317) .e .e .e) (.n (.t 8592039695) .e .e .e)) (.n (.n (.t 2099399) (.t 5) .e .e) (.n (.t 179) (.t 36893488147419366387) .e .e) (.n (.t 66483) .e .e .e) (.n (.t 1073750131) .e .e .e)) (.n (.n (.t 16627) (.t 7784628989) .e .e) (.n (.t 7) (.t 66483) .e .e) (.n (.t 5) .e .e .e) (.n (.t 8589951431) .e .e .e)) (.n (.n (.t 2163) (.t 8804682991559) .e .e) (.n (.t 1005) .e .e .e) (.n (.t 207) .e .e .e) (.n (.t 95) .e .e .e)))) (.n (.n (.n (.n .e (.t 19) .e .e) (.n (.t 16778559) (.t 19023213622105999119) .e .e) (.n (.t 51) .e .e .e) (.n (.t 179) .e .e .e)) (.n (.n (.t 13) (.t 16499) .e .e) (.n (.t 19) (.t 7) .e .e) (.n (.t 379) .e .e .e) (.n (.t 1217485249602318769183) .e .e .e)) (.n (.n (.t 67633275) (.t 137442885819) .e .e) (.n (.t 19) (.t 1073742391) .e .e) (.n (.t 65555) .e .e .e) (.n (.t 75558008406255687827451) .e .e .e)) (.n (.n (.t 2097395) (.t 11) .e .e) (.n (.t 4147) (.t 262927) .e .e) (.n (.t 2419036860693397945499607) .e .e .e) (.n (.t 115) .e .e .e))) (.n (.n (.n (.t 2114557) (.t 95) .e .e) (.n (.t 9) .e .e .e) (.n (.t 8796362515453) .e .e .e) (.n (.t 27) .e .e .e)) (.n (.n (.t 1099511693811) (.t 295147905181504570311) .e .e) (.n (.t 604275) .e .e .e) (.n (.t 131451) .e .e .e) (.n (.t 19) .e .e .e)) (.n (.n (.t 1065203) (.t 37) .e .e) (.n (.t 1049715) (.t 4503668346913551) .e .e) (.n (.t 262771) .e .e .e) (.n (.t 4209725) .e .e .e)) (.n (.n (.t 136339443945469) (.t 75727859) .e .e) (.n (.t 1) (.t 525) .e .e) (.n (.t 137976487901) .e .e .e) (.n (.t 19) .e .e .e))) (.n (.n (.n (.t 159917) (.t 7) .e .e) (.n (.t 1056727) (.t 19) .e .e) (.n (.t 5) .e .e .e) (.n (.t 2039) .e .e .e)) (.n (.n (.t 67699) (.t 536870963) .e .e) (.n (.t 2089672426157898783) (.t 3) .e .e) (.n (.t 524353) .e .e .e) (.n (.t 19) .e .e .e)) (.n (.n (.t 1391) (.t 19) .e .e) (.n (.t 13293) (.t 151115727469970589747187) .e .e) (.n (.t 2097283) .e .e .e) (.n (.t 21) .e .e .e)) (.n (.n (.t 67507) .e .e .e) (.n (.t 139571) .e .e .e) (.n (.t 5) .e .e .e) (.n (.t 247) .e .e .e))) (.n (.n (.n (.t 5) (.t 504373101) .e .e) (.n (.t 17180925743) (.t 15) .e .e) (.n (.t 42535296023574879666274036850519702559) .e .e .e) (.n (.t 35218731966223) .e .e .e)) (.n (.n (.t 141) (.t 271) .e .e) (.n (.t 51) (.t 5) .e .e) (.n (.t 7) .e .e .e) (.n (.t 179) .e .e .e)) (.n (.n (.t 66043) (.t 15) .e .e) (.n (.t 16781267) (.t 3) .e .e) (.n (.t 8363) .e .e .e) .e) (.n (.n (.t 21) (.t 20829169751433159) .e .e) (.n (.t 7) .e .e .e) (.n (.t 4400265299911) .e .e .e) (.n (.t 4211143) .e .e .e)))) (.n (.n (.n (.n (.t 0) (.t 5) .e .e) (.n (.t 65735) (.t 22458641409078797123448399039441150152463) .e .e) (.n (.t 16413) .e .e .e) (.n (.t 8061212381) .e .e .e)) (.n (.n (.t 119) (.t 134252487) .e .e) (.n (.t 31) (.t 134252487) .e .e) (.n (.t 443) .e .e .e) (.n (.t 22997644815212700899627017342834150232570911) .e .e .e)) (.n (.n (.t 70437732618215) (.t 5) .e .e) (.n (.t 5) (.t 1037) .e .e) (.n (.t 66109) .e .e .e) (.n (.t 1099780186547) .e .e .e)) (.n (.n (.t 4612813017913098031) (.t 262203) .e .e) (.n (.t 10404955393597153145976807980556275) .e .e .e) (.n (.t 2267743825679) .e .e .e) (.n (.t 16371) .e .e .e))) (.n (.n (.n (.t 19) (.t 34931) .e .e) (.n (.t 4503874505277949) (.t 702342826256273603086707106465568295829491) .e .e) (.n (.t 576601498885037871) .e .e .e) (.n (.t 1073807859) .e .e .e)) (.n (.n (.t 463) (.t 383123885930096062271794698053396311827682563515776783) .e .e) (.n (.t 33015) (.t 3) .e .e) (.n (.t 443) .e .e .e) (.n (.t 134349819) .e .e .e)) (.n (.n (.t 281476051567607) (.t 23) .e .e) (.n (.t 137506063859) (.t 71) .e .e) (.n (.t 67240563) .e .e .e) (.n (.t 3101) .e .e .e)) (.n (.n (.t 31) (.t 316912838952437276284744179709) .e .e) (.n (.t 4205) (.t 525) .e .e) (.n (.t 179) .e .e .e) (.n (.t 281518060864637) .e .e .e))) (.n (.n (.n (.t 8590066631) (.t 155) .e .e) (.n (.t 1074792371) (.t 7) .e .e) (.n (.t 537152507) .e .e .e) (.n (.t 295165919577870735347) .e .e .e)) (.n (.n (.t 21) (.t 288231475663604767) .e .e) (.n (.t 5) (.t 269427) .e .e) (.n (.t 65619) .e .e .e) (.n (.t 4157) .e .e .e)) (.n (.n (.t 525271) (.t 262343) .e .e) (.n (.t 137438961331) (.t 531911) .e .e) (.n (.t 5) .e .e .e) (.n (.t 2105469) .e .e .e)) (.n (.n (.t 5) (.t 1073746119) .e .e) (.n (.t 7) .e .e .e) (.n (.t 27) .e .e .e) (.n (.t 10384593871817177683247510831234831) .e .e .e))) (.n (.n (.n (.t 19429595830371510147616755) (.t 17592244896765) .e .e) (.n (.t 68161661) (.t 65619) .e .e) (.n (.t 5) .e .e .e) (.n (.t 1333065575601045263) .e .e .e)) (.n (.n (.t 45) (.t 4159) .e .e) (.n (.t 5) (.t 19) .e .e) (.n (.t 31) .e .e .e) (.n (.t 541) .e .e .e)) (.n (.n (.t 119) (.t 19) .e .e) (.n (.t 3) (.t 3) .e .e) (.n (.t 563) .e .e .e) (.n (.t 16806963) .e .e .e)) (.n (.n (.t 4194623) (.t 8391) .e .e) (.n (.t 13) .e .e .e) (.n (.t 2039) .e .e .e) (.n (.t 8796126839539) .e .e .e)))) (.n (.n (.n (.n (.t 2545301472633707637093932564339) (.t 1073742077) .e .e) (.n (.t 8796125004799) (.t 1073742391) .e .e) (.n (.t 1054707) .e .e .e) (.n (.t 3) .e .e .e)) (.n (.n (.t 16777267) (.t 23) .e .e) (.n (.t 17389) (.t 19) .e .e) (.n (.t 170141793200412848058318979955155754711) .e .e .e) (.n (.t 277) .e .e .e)) (.n (.n (.t 131117) (.t 5) .e .e) (.n (.t 55) (.t 5) .e .e) (.n (.t 4243) .e .e .e) (.n (.t 8251) .e .e .e)) (.n (.n (.t 13) (.t 95) .e .e) (.n (.t 537607) (.t 1107300861) .e .e) (.n (.t 66483) .e .e .e) (.n (.t 19) .e .e .e))) (.n (.n (.n (.t 16467) (.t 537399539) .e .e) (.n (.t 65651) (.t 19) .e .e) (.n (.t 19) .e .e .e) (.n (.t 207) .e .e .e)) (.n (.n (.t 268967695) (.t 65735) .e .e) (.n (.t 2171) (.t 295147905181504570311) .e .e) (.n (.t 42618375011510687779761900426694094551) .e .e .e) (.n (.t 107374248061) .e .e .e)) (.n (.n (.t 537397235) (.t 562951966688115) .e .e) (.n (.t 515899543539) (.t 1055) .e .e) (.n (.t 19) .e .e .e) (.n (.t 266227) .e .e .e)) (.n (.n (.t 524365) (.t 15663183516433892416764882583213662997805349754095402995) .e .e) (.n (.t 4449586249791) .e .e .e) (.n (.t 8293245) .e .e .e) (.n (.t 19) .e .e .e))) (.n (.n (.n (.t 557511) (.t 66483) .e .e) (.n (.t 550294786023) (.t 1073742391) .e .e) (.n (.t 8317) .e .e .e) (.n (.t 17179886351) .e .e .e)) (.n (.n (.t 4445978877) (.t 5) .e .e) (.n (.t 9007233614528271) (.t 4197407) .e .e) (.n (.t 262175) .e .e .e) (.n (.t 18751791) .e .e .e)) (.n (.n (.t 189) (.t 8253) .e .e) (.n (.t 33781) (.t 115) .e .e) (.n (.t 5) .e .e .e) (.n (.t 4194547) .e .e .e)) (.n (.n (.t 19) (.t 1074268103) .e .e) (.n (.t 7) .e .e .e) (.n (.t 2163) .e .e .e) (.n (.t 21) .e .e .e))) (.n (.n (.n (.t 9131016445) (.t 17179884733) .e .e) (.n (.t 36283921211123) (.t 19) .e .e) (.n (.t 19) .e .e .e) (.n (.t 33551) .e .e .e)) (.n (.n (.t 33817031) .e .e .e) (.n (.t 504373101) (.t 1) .e .e) (.n (.t 1011) .e .e .e) (.n (.t 528583) .e .e .e)) (.n (.n (.t 239) (.t 23) .e .e) (.n (.t 13) (.t 16777277) .e .e) (.n (.t 138351151749653378483) .e .e .e) (.n (.t 16806963) .e .e .e)) (.n (.n (.t 1053) (.t 83087207854311395603287443752634311) .e .e) (.n (.t 7) .e .e .e) (.n (.t 68083) .e .e .e) (.n (.t 16810611) .e .e .e)))))
noncomputable def flH (t : TypeId) : List FK := Bool.casesOn (Nat.beq t 327) (flatOf PP t) (flatArr PP t)
theorem flH_ok : ∀ t, flH t ≠ [] → FlatOk PP t (flH t) := by
  intro t h
  unfold flH at h ⊢
  cases hb : Nat.beq t 327 with
  | true => rw [hb] at h; exact flatArr_ok t h
  | false => rw [hb] at h; exact flatOf_ok t h
noncomputable def envS (st : Bool) (mask : Nat) (tab : List (Bool × Known)) : Env :=
  ⟨tyOf PP flH, bodyOf PP fun f => (lvT.get 5 f).getD 0, fun f => Bool.casesOn (bit mask f) (baseHook f) (some fun xs h => lookupQ tab f xs h), fun e => Nat.beq e 184, st⟩
noncomputable abbrev envH (mask : Nat) (tab : List (Bool × Known)) : Env := envS true mask tab
theorem noNumH : noNum PP = true := by kernel_rfl
theorem mixedH : PP.follows .mixedOrders = true := by kernel_rfl
theorem hooksH_ok (mask : Nat) (tab : List (Bool × Known)) (ht : ∀ k ∈ tab, entryOk PP k) : ∀ f g, (Bool.casesOn (bit mask f) (baseHook f) (some fun xs h => lookupQ tab f xs h) : Option (List V → H → Option (V × H))) = some g → GoodHook PP f g := by
  intro f g h
  cases hb : bit mask f with
  | true => rw [hb] at h; cases h; exact lookupQ_good tab ht
  | false => rw [hb] at h; exact baseHook_good f g h
theorem tysH (st : Bool) (mask : Nat) (tab : List (Bool × Known)) : TysOk PP (envS st mask tab) := by
  intro t i h
  have h : tyOf PP flH t = some i := h
  exact tyOf_ok flH_ok h
theorem viewOk : liesAt PP PP.depth 184 1 0 184 1 = true := by kernel_rfl
theorem viewsH (st : Bool) (mask : Nat) (tab : List (Bool × Known)) : Views PP (envS st mask tab) := by
  intro e h
  have h : Nat.beq e 184 = true := h
  rw [beq_eq h]
  exact viewOk
theorem bodiesH (st : Bool) (mask : Nat) (tab : List (Bool × Known)) : BodyOk PP (envS st mask tab) := by
  unfold envS
  exact bodyOf_ok noNumH
theorem hooksH (st : Bool) (mask : Nat) (tab : List (Bool × Known)) (ht : ∀ k ∈ tab, entryOk PP k) : HookOk PP (envS st mask tab) := by
  unfold envS
  exact hookOk_of (hooksH_ok mask tab ht)
theorem envH_ok (st : Bool) (mask : Nat) (tab : List (Bool × Known)) (ht : ∀ k ∈ tab, entryOk PP k) : EnvOk PP (envS st mask tab) :=
  ⟨tysH st mask tab, viewsH st mask tab, bodiesH st mask tab, hooksH st mask tab ht⟩
theorem knownH {mask : Nat} {tab : List (Bool × Known)} (ht : ∀ k ∈ tab, entryOk PP k) {f : FuncId} {xs : List V} {h h' : H} {v : V} (e : runK (envH mask tab) 1000000 f xs h h'.heap = .ok (v, h')) : Known.ok PP ⟨f, xs, h, v, h'⟩ :=
  callTo_runK (envH_ok true mask tab ht) mixedH e

end Go.Proofs.YtdomphkodeamgaaGreatDoor
