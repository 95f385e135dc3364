/- Calls of the program that were run by the runner, at the values and heaps that stand here. No conditions. -/
import Derived.Test.YtdomphkodeamgaaGreatDoorK24H
namespace Go.Proofs.YtdomphkodeamgaaGreatDoor
open Go Go.Vint
set_option maxRecDepth 1000000
theorem run24_54 : runK (envH 36893488151714070528 tab24_54) 1000000 35 [(.ptr 1033 0)] h24_84 h24_85.heap = .ok ((.int .i64 (.ofNat 0)), h24_85) := by kernel_rfl
theorem run24_55 : runK (envH 2521728396569246669585858566409191283525103313309788586748690777871726193375821479130513040312634637906545590873948096 tab24_55) 1000000 6 [(.ptr 1026 0), (.str ⟨26159, 2⟩)] h24_77 h24_86.heap = .ok ((.int .i64 (.ofNat 0)), h24_86) := by kernel_rfl
theorem run24_56 : runK (envH 36893488151714070528 tab24_56) 1000000 44 [(.ptr 1924 0), (.str ⟨26159, 2⟩)] h24_88 h24_89.heap = .ok ((.tup [(.agg [(.int .i64 (.ofNat 2)), (.int .i64 (.ofNat 1)), (.int .i64 (.ofNat 1)), (.int .i64 (.ofNat 1)), (.int .i64 (.ofNat 0)), (.gs 2241 0 1 4), (.int .i64 (.ofNat 0)), (.int .i64 (.ofNat 0)), .nils, (.int .i64 (.ofNat 0))]), (.int .i64 (.ofNat 0))]), h24_89) := by kernel_rfl
theorem run24_57 : runK (envH 2521728396569246669585858566409191283525103313309788586748690777871726193375821479130513040312634637906545590873948096 tab24_57) 1000000 20 [(.ptr 1026 0), (.str ⟨26159, 2⟩)] h24_87 h24_90.heap = .ok ((.tup [(.agg [(.int .i64 (.ofNat 2)), (.int .i64 (.ofNat 1)), (.int .i64 (.ofNat 1)), (.int .i64 (.ofNat 0))]), (.int .i64 (.ofNat 0))]), h24_90) := by kernel_rfl
end Go.Proofs.YtdomphkodeamgaaGreatDoor
