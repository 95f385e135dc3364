/- The closed facts that the row and the card of DeskPlaces ask of the program, one by one. No conditions. -/
import Derived.Test.YtdomphkodeamgaaGreatDoorRows
import Derived.Test.YtdomphkodeamgaaGreatDoorCards
import Derived.Test.YtdomphkodeamgaaGreatDoorTie
import Derived.WalkKit
import Derived.ProofKit
import Derived.OpenShut
import Derived.ShutString
import Derived.ChangeOld
import Derived.Below
import Derived.SizedLaws
import Derived.Lib.SmallJoins
import Derived.LaidMore
import Derived.Lay
import Derived.SevenTiedAt
import Derived.Stop.Joined
import Derived.LaidOnce
namespace Go.Proofs.YtdomphkodeamgaaGreatDoor.deskPlaces
set_option maxRecDepth 100000
set_option linter.unusedVariables false
theorem and_mk {a b : Bool} (h : a = true) (k : b = true) : (a && b) = true := by rw [h, k]; rfl
theorem fact0 : (fun (P : Program) (f : FuncId) (fn : Func) (s : ChangeSpec) (c : OpenClaim) => (c.wf (OpenSpec.ofChange s) : Bool)) Tryz.pinned.checked.prog 3 Tryz.f3 Rows.deskPlacesSpec Rows.deskPlacesRow = true := by kernel_rfl
theorem fact1 : (fun (P : Program) (f : FuncId) (fn : Func) (s : ChangeSpec) (c : OpenClaim) => (laidOutB P : Bool)) Tryz.pinned.checked.prog 3 Tryz.f3 Rows.deskPlacesSpec Rows.deskPlacesRow = true := by kernel_rfl
theorem fact2 : (fun (P : Program) (f : FuncId) (fn : Func) (s : ChangeSpec) (c : OpenClaim) => (mapsRowed P : Bool)) Tryz.pinned.checked.prog 3 Tryz.f3 Rows.deskPlacesSpec Rows.deskPlacesRow = true := by kernel_rfl
theorem fact3 : (fun (P : Program) (f : FuncId) (fn : Func) (s : ChangeSpec) (c : OpenClaim) => (fn.params.all (P.readableRec ·) : Bool)) Tryz.pinned.checked.prog 3 Tryz.f3 Rows.deskPlacesSpec Rows.deskPlacesRow = true := by kernel_rfl
theorem fact4 : (fun (P : Program) (f : FuncId) (fn : Func) (s : ChangeSpec) (c : OpenClaim) => (namedTie P c.named s.vars : Bool)) Tryz.pinned.checked.prog 3 Tryz.f3 Rows.deskPlacesSpec Rows.deskPlacesRow = true := by kernel_rfl
theorem fact5 : (fun (P : Program) (f : FuncId) (fn : Func) (s : ChangeSpec) (c : OpenClaim) => ((c.stops == []) : Bool)) Tryz.pinned.checked.prog 3 Tryz.f3 Rows.deskPlacesSpec Rows.deskPlacesRow = true := by kernel_rfl
theorem fact6 : (fun (P : Program) (f : FuncId) (fn : Func) (s : ChangeSpec) (c : OpenClaim) => ((P.stops == []) : Bool)) Tryz.pinned.checked.prog 3 Tryz.f3 Rows.deskPlacesSpec Rows.deskPlacesRow = true := by kernel_rfl
theorem fact7 : (fun (P : Program) (f : FuncId) (fn : Func) (s : ChangeSpec) (c : OpenClaim) => ((c.knobs == []) : Bool)) Tryz.pinned.checked.prog 3 Tryz.f3 Rows.deskPlacesSpec Rows.deskPlacesRow = true := by kernel_rfl
theorem fact8 : (fun (P : Program) (f : FuncId) (fn : Func) (s : ChangeSpec) (c : OpenClaim) => ((P.stopKnobs == []) : Bool)) Tryz.pinned.checked.prog 3 Tryz.f3 Rows.deskPlacesSpec Rows.deskPlacesRow = true := by kernel_rfl
theorem fact9 : (fun (P : Program) (f : FuncId) (fn : Func) (s : ChangeSpec) (c : OpenClaim) => ((c.inPlace == P.inPlace f) : Bool)) Tryz.pinned.checked.prog 3 Tryz.f3 Rows.deskPlacesSpec Rows.deskPlacesRow = true := by kernel_rfl
theorem fact10 : (fun (P : Program) (f : FuncId) (fn : Func) (s : ChangeSpec) (c : OpenClaim) => ((c.unfollowed == P.unfollowed f) : Bool)) Tryz.pinned.checked.prog 3 Tryz.f3 Rows.deskPlacesSpec Rows.deskPlacesRow = true := by kernel_rfl
theorem fact11 : (fun (P : Program) (f : FuncId) (fn : Func) (s : ChangeSpec) (c : OpenClaim) => ((c.recurses == P.recurses f) : Bool)) Tryz.pinned.checked.prog 3 Tryz.f3 Rows.deskPlacesSpec Rows.deskPlacesRow = true := by kernel_rfl
theorem fact12 : (fun (P : Program) (f : FuncId) (fn : Func) (s : ChangeSpec) (c : OpenClaim) => ((c.named == P.varsNamed f) : Bool)) Tryz.pinned.checked.prog 3 Tryz.f3 Rows.deskPlacesSpec Rows.deskPlacesRow = true := by kernel_rfl
theorem fact13 : (fun (P : Program) (f : FuncId) (fn : Func) (s : ChangeSpec) (c : OpenClaim) => ((c.maps == (fn.params.toList ++ s.plain.varTypes P).any (P.mapsRec ·)) : Bool)) Tryz.pinned.checked.prog 3 Tryz.f3 Rows.deskPlacesSpec Rows.deskPlacesRow = true := by kernel_rfl
theorem fact14 : (fun (P : Program) (f : FuncId) (fn : Func) (s : ChangeSpec) (c : OpenClaim) => ((c.ifaces == (fn.params.toList ++ s.plain.varTypes P).any (P.ifacesRec ·)) : Bool)) Tryz.pinned.checked.prog 3 Tryz.f3 Rows.deskPlacesSpec Rows.deskPlacesRow = true := by kernel_rfl
theorem fact15 : (fun (P : Program) (f : FuncId) (fn : Func) (s : ChangeSpec) (c : OpenClaim) => ((c.mapsOut == P.mapsAmong fn.resultTypes.toList) : Bool)) Tryz.pinned.checked.prog 3 Tryz.f3 Rows.deskPlacesSpec Rows.deskPlacesRow = true := by kernel_rfl
theorem fact16 : (fun (P : Program) (f : FuncId) (fn : Func) (s : ChangeSpec) (c : OpenClaim) => ((c.loops == (fn.params.toList ++ s.plain.varTypes P).any (P.loopsFrom ·)) : Bool)) Tryz.pinned.checked.prog 3 Tryz.f3 Rows.deskPlacesSpec Rows.deskPlacesRow = true := by kernel_rfl
theorem fact17 : (fun (P : Program) (f : FuncId) (fn : Func) (s : ChangeSpec) (c : OpenClaim) => ((c.wideKeys == (fn.params.toList ++ s.plain.varTypes P ++ fn.resultTypes.toList).any (P.wideKeysFrom ·)) : Bool)) Tryz.pinned.checked.prog 3 Tryz.f3 Rows.deskPlacesSpec Rows.deskPlacesRow = true := by kernel_rfl
theorem fact18 : (fun (P : Program) (f : FuncId) (fn : Func) (s : ChangeSpec) (c : OpenClaim) => (s.vars.all (P.varReadable ·) : Bool)) Tryz.pinned.checked.prog 3 Tryz.f3 Rows.deskPlacesSpec Rows.deskPlacesRow = true := by kernel_rfl
theorem fact19 : (fun (P : Program) (f : FuncId) (fn : Func) (s : ChangeSpec) (c : OpenClaim) => (fn.resultTypes.all (fun t => P.readableRec t && decide (t < P.types.size)) : Bool)) Tryz.pinned.checked.prog 3 Tryz.f3 Rows.deskPlacesSpec Rows.deskPlacesRow = true := by kernel_rfl
theorem fact20 : (fun (P : Program) (f : FuncId) (fn : Func) (s : ChangeSpec) (c : OpenClaim) => ((c.ifacesOut == fn.resultTypes.toList.any (P.ifacesRec ·)) : Bool)) Tryz.pinned.checked.prog 3 Tryz.f3 Rows.deskPlacesSpec Rows.deskPlacesRow = true := by kernel_rfl
theorem fact21 : (fun (P : Program) (f : FuncId) (fn : Func) (s : ChangeSpec) (c : OpenClaim) => ((c.loopsOut == fn.resultTypes.toList.any (P.loopsFrom ·)) : Bool)) Tryz.pinned.checked.prog 3 Tryz.f3 Rows.deskPlacesSpec Rows.deskPlacesRow = true := by kernel_rfl
theorem fact22 : (fun (P : Program) (f : FuncId) (fn : Func) (s : ChangeSpec) (c : OpenClaim) => ((c.plainKeys == P.plainKeys) : Bool)) Tryz.pinned.checked.prog 3 Tryz.f3 Rows.deskPlacesSpec Rows.deskPlacesRow = true := by kernel_rfl
theorem fact23 : (fun (P : Program) (f : FuncId) (fn : Func) (s : ChangeSpec) (c : OpenClaim) => (c.shortTexts.isNone : Bool)) Tryz.pinned.checked.prog 3 Tryz.f3 Rows.deskPlacesSpec Rows.deskPlacesRow = true := by kernel_rfl
theorem fact24 : (fun (P : Program) (f : FuncId) (fn : Func) (s : ChangeSpec) (c : OpenClaim) => (P.stopsHeard : Bool)) Tryz.pinned.checked.prog 3 Tryz.f3 Rows.deskPlacesSpec Rows.deskPlacesRow = true := by kernel_rfl
theorem fact25 : (fun (P : Program) (f : FuncId) (fn : Func) (s : ChangeSpec) (c : OpenClaim) => (P.mayEnter : Bool)) Tryz.pinned.checked.prog 3 Tryz.f3 Rows.deskPlacesSpec Rows.deskPlacesRow = true := by kernel_rfl
theorem fact26 : (fun (P : Program) (f : FuncId) (fn : Func) (s : ChangeSpec) (c : OpenClaim) => ((c.lifted == P.liftsFinal) : Bool)) Tryz.pinned.checked.prog 3 Tryz.f3 Rows.deskPlacesSpec Rows.deskPlacesRow = true := by kernel_rfl
theorem fact27 : (fun (P : Program) (f : FuncId) (fn : Func) (s : ChangeSpec) (c : OpenClaim) => ((P.make == some c.make) : Bool)) Tryz.pinned.checked.prog 3 Tryz.f3 Rows.deskPlacesSpec Rows.deskPlacesRow = true := by kernel_rfl
theorem fact28 : (fun (P : Program) (f : FuncId) (fn : Func) (s : ChangeSpec) (c : OpenClaim) => ((c.kinds == (if c.domain.isEmpty then [] else fn.params.toList.map fun t => match P.underlying t with | some (.int k) => some k | _ => none)) : Bool)) Tryz.pinned.checked.prog 3 Tryz.f3 Rows.deskPlacesSpec Rows.deskPlacesRow = true := by kernel_rfl
theorem fact29 : (fun (P : Program) (f : FuncId) (fn : Func) (s : ChangeSpec) (c : OpenClaim) => ((c.pinned == c.pinnedBy) : Bool)) Tryz.pinned.checked.prog 3 Tryz.f3 Rows.deskPlacesSpec Rows.deskPlacesRow = true := by kernel_rfl
theorem fact30 : (fun (P : Program) (f : FuncId) (fn : Func) (s : ChangeSpec) (c : OpenClaim) => ((c.veiled == (fn.params.toList ++ s.plain.varTypes P ++ fn.resultTypes.toList).any (P.veiledRec ·)) : Bool)) Tryz.pinned.checked.prog 3 Tryz.f3 Rows.deskPlacesSpec Rows.deskPlacesRow = true := by kernel_rfl
theorem fact31 : (fun (P : Program) (f : FuncId) (fn : Func) (s : ChangeSpec) (c : OpenClaim) => (c.veiledFits P fn.params.toList (fn.params.toList ++ s.plain.varTypes P ++ fn.resultTypes.toList) : Bool)) Tryz.pinned.checked.prog 3 Tryz.f3 Rows.deskPlacesSpec Rows.deskPlacesRow = true := by kernel_rfl
theorem closed : joinedFacts Tryz.pinned.checked.prog 3 Tryz.f3 Rows.deskPlacesSpec Rows.deskPlacesRow = true := by
  unfold joinedFacts
  exact (and_mk (and_mk (and_mk (and_mk (and_mk (and_mk (and_mk (and_mk (and_mk (and_mk (and_mk (and_mk (and_mk (and_mk (and_mk (and_mk (and_mk (and_mk (and_mk (and_mk (and_mk (and_mk (and_mk (and_mk (and_mk (and_mk (and_mk (and_mk (and_mk (and_mk (and_mk fact0 fact1) fact2) fact3) fact4) fact5) fact6) fact7) fact8) fact9) fact10) fact11) fact12) fact13) fact14) fact15) fact16) fact17) fact18) fact19) fact20) fact21) fact22) fact23) fact24) fact25) fact26) fact27) fact28) fact29) fact30) fact31)
theorem cardWf : Rows.deskPlacesRow.wfByText (OpenSpec.ofChange Rows.deskPlacesSpec) = true := by kernel_rfl
theorem cardMain : Tryz.pinned.checked.prog.mainIs = some (true, "d9db704d59265d53fe1d7896f4222db522af4778cc1d12b44bdaecdfe3abc3a3".toList) := by kernel_rfl
theorem goes_false {P : Program} (h : (P.funcs.toList.all fun fn => !fn.goes) = true) (c : OpenClaim) (hs : c.start = .entering) : false = c.goesBy P := by
  have key : ∀ g : Nat, (P.funcs[g]?).any Func.goes = false := by
    intro g
    cases hg : P.funcs[g]? with
    | none => rfl
    | some fn =>
      have := List.all_eq_true.1 h fn (List.mem_of_getElem? (by rw [Array.getElem?_toList]; exact hg))
      simpa using this
  have k2 : P.funcs.any Func.goes = false := by
    cases hb : P.funcs.any Func.goes with
    | false => rfl
    | true =>
      obtain ⟨i, hi, hx⟩ := Array.any_eq_true.1 hb
      have := key i
      rw [Array.getElem?_eq_getElem hi] at this
      rw [Option.any_some] at this
      rw [this] at hx; cases hx
  unfold OpenClaim.goesBy Program.goesAt Program.goesFrom
  rw [hs]
  cases P.funcNamed c.func with
  | none => rfl
  | some f =>
    rw [Option.any_some]
    unfold Program.goes
    simp only [key, k2]
    simp
theorem noGo : (Tryz.pinned.checked.prog.funcs.toList.all fun fn => !fn.goes) = true := by kernel_rfl
theorem cardGoes : false = Rows.deskPlacesRow.goesBy Tryz.pinned.checked.prog := goes_false noGo _ rfl
theorem cardLooks : false = Tryz.pinned.checked.prog.looks [] := by kernel_rfl
theorem cardNamed : Tryz.prog.funcNamed Tryz.f3.name = some 3 := by kernel_rfl
theorem rowNamed : Tryz.pinned.checked.prog.funcNamed Rows.deskPlacesRow.func = some 3 := by kernel_rfl
theorem cardStand : (([4, 22] : List Nat).all fun u => !Tryz.prog.wantsStandIn u) = true := by kernel_rfl
end Go.Proofs.YtdomphkodeamgaaGreatDoor.deskPlaces
