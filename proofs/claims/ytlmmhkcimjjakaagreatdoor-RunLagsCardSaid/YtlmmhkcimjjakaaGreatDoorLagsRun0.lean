/- RunLags, run by the kernel: 0 more. -/
import Derived.Test.YtlmmhkcimjjakaaGreatDoorLTab
import Derived.Test.YtlmmhkcimjjakaaGreatDoorSorts
namespace Go.Proofs.YtlmmhkcimjjakaaGreatDoor
open Go.Ab
set_option maxRecDepth 100000
theorem lags_0_0 : isTrue (evH L_tab prims 1000 7 [.int .i64 (.ofNat 0), .int .i64 (.ofNat 0)] (tabH bruijn)) = true := by kernel_rfl
theorem lags_0_1 : isTrue (evH L_tab prims 1000 7 [.int .i64 (.ofNat 0), .int .i64 (.ofNat 1)] (tabH bruijn)) = true := by kernel_rfl
theorem lags_0_2 : isTrue (evH L_tab prims 1000 7 [.int .i64 (.ofNat 0), .int .i64 (.ofNat 2)] (tabH bruijn)) = true := by kernel_rfl
theorem lags_0_3 : isTrue (evH L_tab prims 1000 7 [.int .i64 (.ofNat 0), .int .i64 (.ofNat 3)] (tabH bruijn)) = true := by kernel_rfl
theorem lags_0_n (k : Nat) : isTrue (evH L_tab prims 1000 7 [.int .i64 (.ofNat 0), .int .i64 (.negSucc k)] (tabH bruijn)) = true := by kernel_rfl
theorem lags_0_4 (k : Nat) : isTrue (evH L_tab prims 1000 7 [.int .i64 (.ofNat 0), .int .i64 (.ofNat (k + 4))] (tabH bruijn)) = true := by kernel_rfl
end Go.Proofs.YtlmmhkcimjjakaaGreatDoor
