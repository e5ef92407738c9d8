/- RunLags, run by the kernel: 3 more. -/
import Derived.Test.YtlmmhkcimjjakaaGreatDoorLTab
import Derived.Test.YtlmmhkcimjjakaaGreatDoorSorts
namespace Go.Proofs.YtlmmhkcimjjakaaGreatDoor
open Go.Ab
set_option maxRecDepth 100000
theorem lags_3_0 : isTrue (evH L_tab prims 1000 7 [.int .i64 (.ofNat 3), .int .i64 (.ofNat 0)] (tabH bruijn)) = true := by kernel_rfl
theorem lags_3_1 : isTrue (evH L_tab prims 1000 7 [.int .i64 (.ofNat 3), .int .i64 (.ofNat 1)] (tabH bruijn)) = true := by kernel_rfl
theorem lags_3_2 : isTrue (evH L_tab prims 1000 7 [.int .i64 (.ofNat 3), .int .i64 (.ofNat 2)] (tabH bruijn)) = true := by kernel_rfl
theorem lags_3_3 : isTrue (evH L_tab prims 1000 7 [.int .i64 (.ofNat 3), .int .i64 (.ofNat 3)] (tabH bruijn)) = true := by kernel_rfl
theorem lags_3_n (k : Nat) : isTrue (evH L_tab prims 1000 7 [.int .i64 (.ofNat 3), .int .i64 (.negSucc k)] (tabH bruijn)) = true := by kernel_rfl
theorem lags_3_4 (k : Nat) : isTrue (evH L_tab prims 1000 7 [.int .i64 (.ofNat 3), .int .i64 (.ofNat (k + 4))] (tabH bruijn)) = true := by kernel_rfl
end Go.Proofs.YtlmmhkcimjjakaaGreatDoor
