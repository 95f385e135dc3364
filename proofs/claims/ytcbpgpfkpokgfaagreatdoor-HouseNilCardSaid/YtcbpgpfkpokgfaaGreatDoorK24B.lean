/- Calls of the program that were run by the runner, at the values and heaps that stand here. No conditions. -/
import Derived.Test.YtcbpgpfkpokgfaaGreatDoorK24H
namespace Go.Proofs.YtcbpgpfkpokgfaaGreatDoor
open Go Go.Vint
set_option maxRecDepth 1000000
theorem run24_8 : runK (envH 302231455185132404604928 tab24_8) 1000000 71 [(.ptr 354 0)] h24_12 h24_13.heap = .ok ((.tup [(.int .i64 (.ofNat 2)), (.int .i64 (.ofNat 0))]), h24_13) := by kernel_rfl
theorem run24_9 : runK (envH 302231455185132404604928 tab24_9) 1000000 72 [(.ptr 354 0), (.agg [(.int .i64 (.ofNat 2)), (.int .i64 (.ofNat 0)), (.int .i64 (.ofNat 0)), (.int .i64 (.ofNat 0)), (.int .i64 (.ofNat 0)), .nils, (.int .i64 (.ofNat 0)), (.int .i64 (.ofNat 0)), .nils, (.int .i64 (.ofNat 0))]), (.agg [(.int .i64 (.ofNat 2)), (.int .i64 (.ofNat 2)), (.int .i64 (.ofNat 1)), (.int .i64 (.ofNat 0)), .nils, (.int .i64 (.ofNat 0)), (.int .i64 (.ofNat 0)), .nils, (.int .i64 (.ofNat 0))]), (.int .i64 (.ofNat 0))] h24_14 h24_15.heap = .ok ((.int .i64 (.ofNat 0)), h24_15) := by kernel_rfl
theorem run24_10 : runK (envH 302231455185132404604928 tab24_10) 1000000 32 [(.ptr 354 0), (.agg [(.int .i64 (.ofNat 1)), (.int .i64 (.ofNat 2)), (.int .i64 (.ofNat 2)), (.int .i64 (.ofNat 1)), (.int .i64 (.ofNat 0)), .nils, (.int .i64 (.ofNat 0)), (.int .i64 (.ofNat 0)), .nils, (.int .i64 (.ofNat 0)), (.str ⟨97, 1⟩), (.int .i64 (.ofNat 0))]), (.int .i64 (.ofNat 2))] h24_15 h24_16.heap = .ok ((.int .i64 (.ofNat 0)), h24_16) := by kernel_rfl
theorem run24_11 : runK (envH 302231455185132404604928 tab24_11) 1000000 51 [(.ptr 353 0)] h24_16 h24_17.heap = .ok ((.int .i64 (.ofNat 0)), h24_17) := by kernel_rfl
theorem run24_12 : runK (envH 309315020673277892427744 tab24_12) 1000000 17 [(.ptr 347 0), (.str ⟨24879, 2⟩)] h24_9 h24_18.heap = .ok ((.int .i64 (.ofNat 0)), h24_18) := by kernel_rfl
theorem run24_13 : runK (envH 302231455185132404604928 tab24_13) 1000000 30 [(.ptr 940 0), (.str ⟨1647272239, 4⟩)] h24_19 h24_20.heap = .ok ((.tup [(.agg [(.int .i64 (.ofNat 2)), (.int .i64 (.ofNat 2)), (.int .i64 (.ofNat 2)), (.int .i64 (.ofNat 1)), (.int .i64 (.ofNat 0)), .nils, (.int .i64 (.ofNat 0)), (.int .i64 (.ofNat 0)), .nils, (.int .i64 (.ofNat 0)), (.str ⟨98, 1⟩), (.int .i64 (.ofNat 0))]), (.int .i64 (.ofNat 0))]), h24_20) := by kernel_rfl
end Go.Proofs.YtcbpgpfkpokgfaaGreatDoor
