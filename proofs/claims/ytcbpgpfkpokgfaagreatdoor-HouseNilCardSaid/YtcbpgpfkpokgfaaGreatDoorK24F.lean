/- Calls of the program that were run by the runner, at the values and heaps that stand here. No conditions. -/
import Derived.Test.YtcbpgpfkpokgfaaGreatDoorK24H
namespace Go.Proofs.YtcbpgpfkpokgfaaGreatDoor
open Go Go.Vint
set_option maxRecDepth 1000000
theorem run24_30 : runK (envH 309315020673277892427744 tab24_30) 1000000 7 [(.ptr 347 0), (.str ⟨1647272239, 4⟩), (.int .i64 (.ofNat 0)), (.int .i64 (.ofNat 9))] h24_40 h24_45.heap = .ok ((.tup [(.str ⟨26984, 2⟩), (.int .i64 (.ofNat 0))]), h24_45) := by kernel_rfl
theorem run24_31 : runK (envH 302231455185132404604928 tab24_31) 1000000 19 [(.ptr 3913 0), (.str ⟨24879, 2⟩)] h24_46 h24_47.heap = .ok ((.tup [(.agg [(.int .i64 (.ofNat 2)), (.int .i64 (.ofNat 2)), (.int .i64 (.ofNat 2)), (.int .i64 (.ofNat 1)), (.int .i64 (.ofNat 128)), .nils, (.int .i64 (.ofNat 0)), (.int .i64 (.ofNat 0)), (.gs 4168 0 3 1), (.int .i64 (.ofNat 0))]), (.int .i64 (.ofNat 0))]), h24_47) := by kernel_rfl
theorem run24_32 : runK (envH 302231455185132404604928 tab24_32) 1000000 22 [(.ptr 3912 0), (.agg [(.int .i64 (.ofNat 2)), (.int .i64 (.ofNat 2)), (.int .i64 (.ofNat 1)), (.int .i64 (.ofNat 128)), .nils, (.int .i64 (.ofNat 0)), (.int .i64 (.ofNat 0)), (.gs 4168 0 3 1), (.int .i64 (.ofNat 0))]), (.int .i64 (.ofNat 0)), (.int .i64 (.ofNat 128))] h24_48 h24_49.heap = .ok ((.tup [(.str ⟨237684487542793012780631876097, 128⟩), (.int .i64 (.ofNat 0))]), h24_49) := by kernel_rfl
theorem run24_33 : runK (envH 309315020673277892427744 tab24_33) 1000000 5 [(.ptr 347 0), (.str ⟨24879, 2⟩)] h24_45 h24_50.heap = .ok ((.tup [(.agg [(.int .i64 (.ofNat 2)), (.int .i64 (.ofNat 2)), (.int .i64 (.ofNat 1)), (.int .i64 (.ofNat 1))]), (.int .i64 (.ofNat 0))]), h24_50) := by kernel_rfl
theorem run24_34 : runK (envH 309315020673277892427744 tab24_34) 1000000 14 [(.ptr 347 0)] h24_51 h24_51.heap = .ok ((.int .i64 (.ofNat 2)), h24_51) := by kernel_rfl
theorem run24_35 : runK (envH 309315020673277892427744 tab24_35) 1000000 4 [] h24_0 h24_52.heap = .ok ((.bool true), h24_52) := by kernel_rfl
end Go.Proofs.YtcbpgpfkpokgfaaGreatDoor
