/- Calls of the program that were run by the runner, at the values and heaps that stand here. No conditions. -/
import Derived.Test.YtcbpgpfkpokgfaaGreatDoorK24H
namespace Go.Proofs.YtcbpgpfkpokgfaaGreatDoor
open Go Go.Vint
set_option maxRecDepth 1000000
theorem run24_22 : runK (envH 309315020673276813967328 tab24_22) 1000000 12 [(.ptr 347 0), (.str ⟨24879, 2⟩), (.str ⟨1664049455, 4⟩)] h24_28 h24_32.heap = .ok ((.int .i64 (.ofNat 1)), h24_32) := by kernel_rfl
theorem run24_23 : runK (envH 302231455185132404604928 tab24_23) 1000000 19 [(.ptr 2573 0), (.str ⟨1647272239, 4⟩)] h24_33 h24_34.heap = .ok ((.tup [(.agg [(.int .i64 (.ofNat 3)), (.int .i64 (.ofNat 2)), (.int .i64 (.ofNat 1)), (.int .i64 (.ofNat 1)), (.int .i64 (.ofNat 0)), .nils, (.int .i64 (.ofNat 0)), (.int .i64 (.ofNat 0)), .nils, (.int .i64 (.ofNat 0))]), (.int .i64 (.ofNat 0))]), h24_34) := by kernel_rfl
end Go.Proofs.YtcbpgpfkpokgfaaGreatDoor
