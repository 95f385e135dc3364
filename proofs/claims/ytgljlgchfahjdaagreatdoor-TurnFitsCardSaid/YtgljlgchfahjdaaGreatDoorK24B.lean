/- Calls of the program that were run by the runner, at the values and heaps that stand here. No conditions. -/
import Derived.Test.YtgljlgchfahjdaaGreatDoorK24H
namespace Go.Proofs.YtgljlgchfahjdaaGreatDoor
open Go Go.Vint
set_option maxRecDepth 1000000
theorem run24_8 : runK (envH 9007233614479360 tab24_8) 1000000 94 [(.ptr 361 0), (.str ⟨26159, 2⟩)] h24_14 h24_15.heap = .ok ((.tup [(.agg [(.int .i64 (.ofNat 1)), (.int .i64 (.ofNat 1)), (.int .i64 (.ofNat 2)), (.int .i64 (.ofNat 1)), (.int .i64 (.ofNat 0)), (.gs 391 0 1 4), (.int .i64 (.ofNat 0)), (.int .i64 (.ofNat 0)), .nils, (.int .i64 (.ofNat 0)), (.str ⟨102, 1⟩), (.int .i64 (.ofNat 0))]), (.int .i64 (.ofNat 0))]), h24_15) := by kernel_rfl
theorem run24_9 : runK (envH 9007233614479360 tab24_9) 1000000 171 [(.ptr 361 0)] h24_16 h24_17.heap = .ok ((.tup [(.int .i64 (.ofNat 2)), (.int .i64 (.ofNat 0))]), h24_17) := by kernel_rfl
theorem run24_10 : runK (envH 9007233614479360 tab24_10) 1000000 172 [(.ptr 361 0), (.agg [(.int .i64 (.ofNat 2)), (.int .i64 (.ofNat 0)), (.int .i64 (.ofNat 0)), (.int .i64 (.ofNat 0)), (.int .i64 (.ofNat 0)), .nils, (.int .i64 (.ofNat 0)), (.int .i64 (.ofNat 0)), .nils, (.int .i64 (.ofNat 0))]), (.agg [(.int .i64 (.ofNat 1)), (.int .i64 (.ofNat 1)), (.int .i64 (.ofNat 1)), (.int .i64 (.ofNat 0)), (.sl 506 0 4 4), (.int .i64 (.ofNat 0)), (.int .i64 (.ofNat 0)), .nils, (.int .i64 (.ofNat 0))]), (.int .i64 (.ofNat 0))] h24_18 h24_19.heap = .ok ((.int .i64 (.ofNat 0)), h24_19) := by kernel_rfl
theorem run24_11 : runK (envH 9007233614479360 tab24_11) 1000000 95 [(.ptr 361 0), (.agg [(.int .i64 (.ofNat 1)), (.int .i64 (.ofNat 1)), (.int .i64 (.ofNat 2)), (.int .i64 (.ofNat 1)), (.int .i64 (.ofNat 0)), (.gs 391 0 1 4), (.int .i64 (.ofNat 0)), (.int .i64 (.ofNat 0)), .nils, (.int .i64 (.ofNat 0)), (.str ⟨102, 1⟩), (.int .i64 (.ofNat 0))]), (.int .i64 (.ofNat 2))] h24_19 h24_20.heap = .ok ((.int .i64 (.ofNat 0)), h24_20) := by kernel_rfl
end Go.Proofs.YtgljlgchfahjdaaGreatDoor
