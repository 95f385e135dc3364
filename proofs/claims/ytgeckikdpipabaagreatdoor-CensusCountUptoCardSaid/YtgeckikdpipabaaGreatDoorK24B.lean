/- Calls of the program that were run by the runner, at the values and heaps that stand here. No conditions. -/
import Derived.Test.YtgeckikdpipabaaGreatDoorK24H
namespace Go.Proofs.YtgeckikdpipabaaGreatDoor
open Go Go.Vint
set_option maxRecDepth 1000000
theorem run24_10 : runK (envH 70368782454720 tab24_10) 1000000 10 [(.gs 530 0 5 1), (.str ⟨47, 1⟩)] h24_13 h24_14.heap = .ok ((.tup [(.int .i64 (.ofNat 1)), (.bool true)]), h24_14) := by kernel_rfl
theorem run24_11 : runK (envH 70368782454720 tab24_11) 1000000 4 [] h24_0 h24_15.heap = .ok ((.bool true), h24_15) := by kernel_rfl
end Go.Proofs.YtgeckikdpipabaaGreatDoor
