/- VmCloses, run by the kernel: all. -/
import Derived.Test.YtggjnaeefpafhaaGreatDoorCTab
import Derived.Test.YtggjnaeefpafhaaGreatDoorSorts
import Derived.Test.YtggjnaeefpafhaaGreatDoorClosesRun0
import Derived.Test.YtggjnaeefpafhaaGreatDoorClosesRun1
import Derived.Test.YtggjnaeefpafhaaGreatDoorClosesRun2
import Derived.Test.YtggjnaeefpafhaaGreatDoorClosesRun3
import Derived.Test.YtggjnaeefpafhaaGreatDoorClosesRun4
import Derived.Test.YtggjnaeefpafhaaGreatDoorClosesRun5
namespace Go.Proofs.YtggjnaeefpafhaaGreatDoor
open Go.Ab
set_option maxRecDepth 100000
theorem closes_n (k : Nat) (g : Int) : isTrue (evH C_tab prims 1000 7 [.int .i64 (.negSucc k), .int .i64 g] (tabH bruijn)) = true := by kernel_rfl
theorem closes_6 (k : Nat) (g : Int) : isTrue (evH C_tab prims 1000 7 [.int .i64 (.ofNat (k + 6)), .int .i64 g] (tabH bruijn)) = true := by kernel_rfl
theorem Closes_run (n g : Int) : isTrue (evH C_tab prims 1000 7 [.int .i64 n, .int .i64 g] (tabH bruijn)) = true :=
  match n with
  | .negSucc k => closes_n k g
  | .ofNat (k + 6) => closes_6 k g
  | .ofNat 0 => match g with
    | .negSucc k => closes_0_n k
    | .ofNat (k + 5) => closes_0_5 k
    | .ofNat 0 => closes_0_0
    | .ofNat 1 => closes_0_1
    | .ofNat 2 => closes_0_2
    | .ofNat 3 => closes_0_3
    | .ofNat 4 => closes_0_4
  | .ofNat 1 => match g with
    | .negSucc k => closes_1_n k
    | .ofNat (k + 5) => closes_1_5 k
    | .ofNat 0 => closes_1_0
    | .ofNat 1 => closes_1_1
    | .ofNat 2 => closes_1_2
    | .ofNat 3 => closes_1_3
    | .ofNat 4 => closes_1_4
  | .ofNat 2 => match g with
    | .negSucc k => closes_2_n k
    | .ofNat (k + 5) => closes_2_5 k
    | .ofNat 0 => closes_2_0
    | .ofNat 1 => closes_2_1
    | .ofNat 2 => closes_2_2
    | .ofNat 3 => closes_2_3
    | .ofNat 4 => closes_2_4
  | .ofNat 3 => match g with
    | .negSucc k => closes_3_n k
    | .ofNat (k + 5) => closes_3_5 k
    | .ofNat 0 => closes_3_0
    | .ofNat 1 => closes_3_1
    | .ofNat 2 => closes_3_2
    | .ofNat 3 => closes_3_3
    | .ofNat 4 => closes_3_4
  | .ofNat 4 => match g with
    | .negSucc k => closes_4_n k
    | .ofNat (k + 5) => closes_4_5 k
    | .ofNat 0 => closes_4_0
    | .ofNat 1 => closes_4_1
    | .ofNat 2 => closes_4_2
    | .ofNat 3 => closes_4_3
    | .ofNat 4 => closes_4_4
  | .ofNat 5 => match g with
    | .negSucc k => closes_5_n k
    | .ofNat (k + 5) => closes_5_5 k
    | .ofNat 0 => closes_5_0
    | .ofNat 1 => closes_5_1
    | .ofNat 2 => closes_5_2
    | .ofNat 3 => closes_5_3
    | .ofNat 4 => closes_5_4
end Go.Proofs.YtggjnaeefpafhaaGreatDoor
