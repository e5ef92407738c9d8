/- RunLags, run by the kernel: 2 more. -/
import Derived.Test.YtlmmhkcimjjakaaGreatDoorLTab
import Derived.Test.YtlmmhkcimjjakaaGreatDoorSorts
namespace Go.Proofs.YtlmmhkcimjjakaaGreatDoor
open Go.Ab
set_option maxRecDepth 100000
theorem lags_2_0 : isTrue (evH L_tab prims 1000 7 [.int .i64 (.ofNat 2), .int .i64 (.ofNat 0)] (tabH bruijn)) = true := by kernel_rfl
theorem lags_2_1 : isTrue (evH L_tab prims 1000 7 [.int .i64 (.ofNat 2), .int .i64 (.ofNat 1)] (tabH bruijn)) = true := by kernel_rfl
theorem lags_2_2 : isTrue (evH L_tab prims 1000 7 [.int .i64 (.ofNat 2), .int .i64 (.ofNat 2)] (tabH bruijn)) = true := by kernel_rfl
theorem lags_2_3 : isTrue (evH L_tab prims 1000 7 [.int .i64 (.ofNat 2), .int .i64 (.ofNat 3)] (tabH bruijn)) = true := by kernel_rfl
theorem lags_2_n (k : Nat) : isTrue (evH L_tab prims 1000 7 [.int .i64 (.ofNat 2), .int .i64 (.negSucc k)] (tabH bruijn)) = true := by kernel_rfl
theorem lags_2_4 (k : Nat) : isTrue (evH L_tab prims 1000 7 [.int .i64 (.ofNat 2), .int .i64 (.ofNat (k + 4))] (tabH bruijn)) = true := by kernel_rfl
end Go.Proofs.YtlmmhkcimjjakaaGreatDoor
