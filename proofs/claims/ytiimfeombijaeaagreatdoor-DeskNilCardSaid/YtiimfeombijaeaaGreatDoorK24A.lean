/- Calls of the program that were run by the runner, at the values and heaps that stand here. No conditions. -/
import Derived.Test.YtiimfeombijaeaaGreatDoorK24H
namespace Go.Proofs.YtiimfeombijaeaaGreatDoor
open Go Go.Vint
set_option maxRecDepth 1000000
theorem run24_0 : runK (envH 9671406561158954164340160 tab24_0) 1000000 20 [(.int .i64 (.ofNat 400))] h24_0 h24_1.heap = .ok ((.ptr 2 0), h24_1) := by kernel_rfl
theorem run24_1 : runK (envH 9671406561158954164340160 tab24_1) 1000000 41 [(.int .i64 (.ofNat 400))] h24_0 h24_2.heap = .ok ((.str ⟨179769313486231590772930519078902473361797697894230657273430081157732675805500963132708477322407536021120113879871393357658789768814416622492847430639474124377767893424865485276302219601243511869574996043495349849666147670468133175681083887027996577806809863062569457045317600585199578473399455409451290329087, 128⟩), h24_2) := by kernel_rfl
theorem run24_2 : runK (envH 9671406561158954164340160 tab24_2) 1000000 83 [(.agg [(.int .i64 (.ofNat 0)), (.int .i64 (.ofNat 0)), (.int .i64 (.ofNat 0)), (.int .i64 (.ofNat 0)), .nils, (.int .i64 (.ofNat 0)), (.int .i64 (.ofNat 0)), .nils, (.int .i64 (.ofNat 0))])] h24_0 h24_3.heap = .ok ((.tup [(.str ⟨0, 32⟩), (.int .i64 (.ofNat 0))]), h24_3) := by kernel_rfl
end Go.Proofs.YtiimfeombijaeaaGreatDoor
