/- printed for this claim by gprint.py, a program of this session, that drives the kit's printer. -/
import Derived.Test.YtahjalabhlakaabDoorProg
import Derived.Below
import Derived.Deep.Draws
import Derived.Deep.AppendLies
import Derived.Maps.AppendAt
import Derived.OwnWalk
import Derived.Laws.BytesArg
import Derived.Laws.MakeOwn
import Derived.Laws.OwnMore
import Derived.Deep.OwnRows
import Derived.Tactics
import Derived.Lib.ConvBytes
import Derived.Laws.Slices
import Derived.WalkKit
import Derived.KernelRfl
import Derived.RowKit3
import Derived.Deep.LoopGhost
import Derived.Deep.QuietTactic
import Derived.BigQuiet
import Derived.WideLaws
import Derived.Deep.DeepCutAuto
import Derived.Deep.CutBlock
import Derived.Deep.RegionHeld3
import Derived.Laws.Rows
import Derived.Lib.AppendStr
import Derived.ArgAppend
import Derived.Laws.IdiomCopy
import Derived.OrdersHeld
import Derived.Laws.BitsLemmas
import Derived.RowKit
import Derived.Test.YtahjalabhlakaabDoorShelf
import Derived.Test.YtahjalabhlakaabDoorWWords
import Derived.Test.YtahjalabhlakaabDoorWLast
import Derived.Test.YtahjalabhlakaabDoorWTab
import Derived.Test.YtahjalabhlakaabDoorWFour
import Derived.Test.YtahjalabhlakaabDoorWQPut
import Derived.Test.YtahjalabhlakaabDoorWApart
import Derived.Test.YtahjalabhlakaabDoorWArr
import Derived.Test.YtahjalabhlakaabDoorWZeros
import Derived.Test.YtahjalabhlakaabDoorWFoot
import Derived.Test.YtahjalabhlakaabDoorWKept
import Derived.Test.YtahjalabhlakaabDoorWShare
import Derived.Test.YtahjalabhlakaabDoorWN
import Derived.Test.YtahjalabhlakaabDoorWFootNe
import Derived.Test.YtahjalabhlakaabDoorWAt
import Derived.Test.YtahjalabhlakaabDoorWEqStruct
import Derived.Test.YtahjalabhlakaabDoorWRepsOne
import Derived.Test.YtahjalabhlakaabDoorWInv
import Derived.Test.YtahjalabhlakaabDoorWInvWords
import Derived.Test.YtahjalabhlakaabDoorWGuard
import Derived.Test.YtahjalabhlakaabDoorWNEv
import Derived.Test.YtahjalabhlakaabDoorWMore
import Derived.Test.YtahjalabhlakaabDoorGWords
namespace Go.Proofs.YtahjalabhlakaabDoor.GCrM
open Go.RowKit Go.Proofs.YtahjalabhlakaabDoorW.PrintWords Go.Proofs.YtahjalabhlakaabDoorW.PrintLast Go.Proofs.YtahjalabhlakaabDoorW.PrintMore
attribute [local go_sem] max2_int min2_int max_two min_two max_three min_three max_four min_four   -- for this text's walks alone
set_option linter.unusedVariables false
set_option linter.unusedSimpArgs false



def errW : Option Int → Value
  | none => .nilIface
  | some c => .iface 0 (.int .i64 c)
theorem errW_none : errW none = .nilIface := rfl
theorem errW_some (c : Int) : errW (some c) = .iface 0 (.int .i64 c) := rfl

theorem info3 : (Tryd.prog.info? 3).map (fun i => (i.zero, i.size, i.bytes)) = some (some (.int .i64 0), 1, 8) := by kernel_rfl
theorem info5 : (Tryd.prog.info? 5).map (fun i => (i.zero, i.size, i.bytes)) = some (some (.int .u8 0), 1, 1) := by kernel_rfl
-- the values' own types

end Go.Proofs.YtahjalabhlakaabDoor.GCrM
