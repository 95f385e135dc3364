/- Calls of the program that were run by the runner, at the values and heaps that stand here. No conditions. -/
import Derived.Test.YtgeckikdpipabaaGreatDoorK24H
namespace Go.Proofs.YtgeckikdpipabaaGreatDoor
open Go Go.Vint
set_option maxRecDepth 1000000
theorem run24_0 : runK (envH 70368782454720 tab24_0) 1000000 11 [(.sl 0 0 64 64)] h24_1 h24_2.heap = .ok ((.ptr 2 0), h24_2) := by kernel_rfl
theorem run24_1 : runK (envH 70368782454720 tab24_1) 1000000 6 [(.int .i64 (.ofNat 64))] h24_0 h24_3.heap = .ok ((.ptr 2 0), h24_3) := by kernel_rfl
theorem run24_2 : runK (envH 70368782454720 tab24_2) 1000000 19 [(.int .i64 (.ofNat 64))] h24_0 h24_4.heap = .ok ((.str ⟨179769313486231590772930519078902473361797697894230657273430081157732675805500963132708477322407536021120113879871393357658789768814416622492847430639474124377767893424865485276302219601246094119453082952085005768838150682342462881473913110540827237163350510684586298239947245938479716304816911837350328270847, 128⟩), h24_4) := by kernel_rfl
theorem run24_3 : runK (envH 70368782454720 tab24_3) 1000000 46 [(.agg [(.int .i64 (.ofNat 0)), (.int .i64 (.ofNat 0)), (.int .i64 (.ofNat 0)), (.int .i64 (.ofNat 0)), .nils, (.int .i64 (.ofNat 0)), (.int .i64 (.ofNat 0)), .nils, (.int .i64 (.ofNat 0))])] h24_0 h24_5.heap = .ok ((.tup [(.str ⟨0, 32⟩), (.int .i64 (.ofNat 0))]), h24_5) := by kernel_rfl
theorem run24_4 : runK (envH 70368782454720 tab24_4) 1000000 46 [(.agg [(.int .i64 (.ofNat 2)), (.int .i64 (.ofNat 2)), (.int .i64 (.ofNat 1)), (.int .i64 (.ofNat 0)), .nils, (.int .i64 (.ofNat 0)), (.int .i64 (.ofNat 0)), .nils, (.int .i64 (.ofNat 0))])] h24_0 h24_6.heap = .ok ((.tup [(.str ⟨66050, 32⟩), (.int .i64 (.ofNat 0))]), h24_6) := by kernel_rfl
theorem run24_5 : runK (envH 70368744701952 tab24_5) 1000000 22 [(.ptr 152 0)] h24_7 h24_8.heap = .ok ((.int .i64 (.ofNat 0)), h24_8) := by kernel_rfl
theorem run24_6 : runK (envH 70368782454720 tab24_6) 1000000 7 [(.ptr 2 0), (.int .i64 (.ofNat 2))] h24_3 h24_9.heap = .ok ((.int .i64 (.ofNat 0)), h24_9) := by kernel_rfl
theorem run24_7 : runK (envH 70368782454720 tab24_7) 1000000 9 [(.ptr 2 0)] h24_9 h24_10.heap = .ok ((.gs 297 0 1 64), h24_10) := by kernel_rfl
theorem run24_8 : runK (envH 70368782454720 tab24_8) 1000000 11 [(.gs 297 0 1 64)] h24_11 h24_12.heap = .ok ((.ptr 301 0), h24_12) := by kernel_rfl
theorem run24_9 : runK (envH 70368748900288 tab24_9) 1000000 8 [(.gs 297 0 1 64)] h24_10 h24_13.heap = .ok ((.tup [(.gs 530 0 5 1), (.int .i64 (.ofNat 0))]), h24_13) := by kernel_rfl
end Go.Proofs.YtgeckikdpipabaaGreatDoor
