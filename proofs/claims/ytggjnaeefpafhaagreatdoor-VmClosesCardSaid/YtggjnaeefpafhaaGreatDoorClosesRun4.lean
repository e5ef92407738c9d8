/- VmCloses, run by the kernel: 4 in it. -/
import Derived.Test.YtggjnaeefpafhaaGreatDoorCTab
import Derived.Test.YtggjnaeefpafhaaGreatDoorSorts
namespace Go.Proofs.YtggjnaeefpafhaaGreatDoor
open Go.Ab
set_option maxRecDepth 100000
theorem closes_4_0 : isTrue (evH C_tab prims 1000 7 [.int .i64 (.ofNat 4), .int .i64 (.ofNat 0)] (tabH bruijn)) = true := by kernel_rfl
theorem closes_4_1 : isTrue (evH C_tab prims 1000 7 [.int .i64 (.ofNat 4), .int .i64 (.ofNat 1)] (tabH bruijn)) = true := by kernel_rfl
theorem closes_4_2 : isTrue (evH C_tab prims 1000 7 [.int .i64 (.ofNat 4), .int .i64 (.ofNat 2)] (tabH bruijn)) = true := by kernel_rfl
theorem closes_4_3 : isTrue (evH C_tab prims 1000 7 [.int .i64 (.ofNat 4), .int .i64 (.ofNat 3)] (tabH bruijn)) = true := by kernel_rfl
theorem closes_4_4 : isTrue (evH C_tab prims 1000 7 [.int .i64 (.ofNat 4), .int .i64 (.ofNat 4)] (tabH bruijn)) = true := by kernel_rfl
theorem closes_4_n (k : Nat) : isTrue (evH C_tab prims 1000 7 [.int .i64 (.ofNat 4), .int .i64 (.negSucc k)] (tabH bruijn)) = true := by kernel_rfl
theorem closes_4_5 (k : Nat) : isTrue (evH C_tab prims 1000 7 [.int .i64 (.ofNat 4), .int .i64 (.ofNat (k + 5))] (tabH bruijn)) = true := by kernel_rfl
end Go.Proofs.YtggjnaeefpafhaaGreatDoor
