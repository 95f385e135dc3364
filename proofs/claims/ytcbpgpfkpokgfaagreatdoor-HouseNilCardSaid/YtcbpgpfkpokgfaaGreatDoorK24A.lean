/- Calls of the program that were run by the runner, at the values and heaps that stand here. No conditions. -/
import Derived.Test.YtcbpgpfkpokgfaaGreatDoorK24H
namespace Go.Proofs.YtcbpgpfkpokgfaaGreatDoor
open Go Go.Vint
set_option maxRecDepth 1000000
theorem run24_0 : runK (envH 309315020673277892427744 tab24_0) 1000000 52 [(.int .i64 (.ofNat 80))] h24_0 h24_1.heap = .ok ((.ptr 2 0), h24_1) := by kernel_rfl
theorem run24_1 : runK (envH 309315020673277892427744 tab24_1) 1000000 48 [(.int .i64 (.ofNat 80))] h24_0 h24_2.heap = .ok ((.str ⟨179769313486231590772930519078902473361797697894230657273430081157732675805500963132708477322407536021120113879871393357658789768814416622492847430639474124377767893424865485276302219601246094119453082952085005768838150682342462881473913110540827237163350510684586298239947245938479715095909538966794863116287, 128⟩), h24_2) := by kernel_rfl
theorem run24_2 : runK (envH 309315020673277892427744 tab24_2) 1000000 78 [(.agg [(.int .i64 (.ofNat 0)), (.int .i64 (.ofNat 0)), (.int .i64 (.ofNat 0)), (.int .i64 (.ofNat 0)), .nils, (.int .i64 (.ofNat 0)), (.int .i64 (.ofNat 0)), .nils, (.int .i64 (.ofNat 0))])] h24_0 h24_3.heap = .ok ((.tup [(.str ⟨0, 32⟩), (.int .i64 (.ofNat 0))]), h24_3) := by kernel_rfl
theorem run24_3 : runK (envH 309315020673277892427744 tab24_3) 1000000 78 [(.agg [(.int .i64 (.ofNat 2)), (.int .i64 (.ofNat 2)), (.int .i64 (.ofNat 1)), (.int .i64 (.ofNat 0)), .nils, (.int .i64 (.ofNat 0)), (.int .i64 (.ofNat 0)), .nils, (.int .i64 (.ofNat 0))])] h24_0 h24_4.heap = .ok ((.tup [(.str ⟨66050, 32⟩), (.int .i64 (.ofNat 0))]), h24_4) := by kernel_rfl
theorem run24_4 : runK (envH 302231455185132404604928 tab24_4) 1000000 51 [(.ptr 184 0)] h24_5 h24_6.heap = .ok ((.int .i64 (.ofNat 0)), h24_6) := by kernel_rfl
theorem run24_5 : runK (envH 309315020673277892427744 tab24_5) 1000000 15 [(.ptr 2 0), (.int .i64 (.ofNat 2))] h24_1 h24_7.heap = .ok ((.int .i64 (.ofNat 0)), h24_7) := by kernel_rfl
theorem run24_6 : runK (envH 309315020673277892427744 tab24_6) 1000000 53 [(.ptr 2 0)] h24_7 h24_8.heap = .ok ((.tup [(.ptr 347 0), (.int .i64 (.ofNat 0))]), h24_8) := by kernel_rfl
theorem run24_7 : runK (envH 302231455185132404604928 tab24_7) 1000000 30 [(.ptr 354 0), (.str ⟨24879, 2⟩)] h24_10 h24_11.heap = .ok ((.tup [(.agg [(.int .i64 (.ofNat 1)), (.int .i64 (.ofNat 2)), (.int .i64 (.ofNat 2)), (.int .i64 (.ofNat 1)), (.int .i64 (.ofNat 0)), .nils, (.int .i64 (.ofNat 0)), (.int .i64 (.ofNat 0)), .nils, (.int .i64 (.ofNat 0)), (.str ⟨97, 1⟩), (.int .i64 (.ofNat 0))]), (.int .i64 (.ofNat 0))]), h24_11) := by kernel_rfl
end Go.Proofs.YtcbpgpfkpokgfaaGreatDoor
