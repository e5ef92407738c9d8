/- RunLags, run by the kernel: all. -/
import Derived.Test.YtlmmhkcimjjakaaGreatDoorLTab
import Derived.Test.YtlmmhkcimjjakaaGreatDoorSorts
import Derived.Test.YtlmmhkcimjjakaaGreatDoorLagsRun0
import Derived.Test.YtlmmhkcimjjakaaGreatDoorLagsRun1
import Derived.Test.YtlmmhkcimjjakaaGreatDoorLagsRun2
import Derived.Test.YtlmmhkcimjjakaaGreatDoorLagsRun3
import Derived.Test.YtlmmhkcimjjakaaGreatDoorLagsRun4
import Derived.Test.YtlmmhkcimjjakaaGreatDoorLagsRun5
namespace Go.Proofs.YtlmmhkcimjjakaaGreatDoor
open Go.Ab
set_option maxRecDepth 100000
theorem lags_n (k : Nat) (g : Int) : isTrue (evH L_tab prims 1000 7 [.int .i64 (.negSucc k), .int .i64 g] (tabH bruijn)) = true := by kernel_rfl
theorem lags_6 (k : Nat) (g : Int) : isTrue (evH L_tab prims 1000 7 [.int .i64 (.ofNat (k + 6)), .int .i64 g] (tabH bruijn)) = true := by kernel_rfl
theorem Lags_run (n g : Int) : isTrue (evH L_tab prims 1000 7 [.int .i64 n, .int .i64 g] (tabH bruijn)) = true :=
  match n with
  | .negSucc k => lags_n k g
  | .ofNat (k + 6) => lags_6 k g
  | .ofNat 0 => match g with
    | .negSucc k => lags_0_n k
    | .ofNat (k + 4) => lags_0_4 k
    | .ofNat 0 => lags_0_0
    | .ofNat 1 => lags_0_1
    | .ofNat 2 => lags_0_2
    | .ofNat 3 => lags_0_3
  | .ofNat 1 => match g with
    | .negSucc k => lags_1_n k
    | .ofNat (k + 4) => lags_1_4 k
    | .ofNat 0 => lags_1_0
    | .ofNat 1 => lags_1_1
    | .ofNat 2 => lags_1_2
    | .ofNat 3 => lags_1_3
  | .ofNat 2 => match g with
    | .negSucc k => lags_2_n k
    | .ofNat (k + 4) => lags_2_4 k
    | .ofNat 0 => lags_2_0
    | .ofNat 1 => lags_2_1
    | .ofNat 2 => lags_2_2
    | .ofNat 3 => lags_2_3
  | .ofNat 3 => match g with
    | .negSucc k => lags_3_n k
    | .ofNat (k + 4) => lags_3_4 k
    | .ofNat 0 => lags_3_0
    | .ofNat 1 => lags_3_1
    | .ofNat 2 => lags_3_2
    | .ofNat 3 => lags_3_3
  | .ofNat 4 => match g with
    | .negSucc k => lags_4_n k
    | .ofNat (k + 4) => lags_4_4 k
    | .ofNat 0 => lags_4_0
    | .ofNat 1 => lags_4_1
    | .ofNat 2 => lags_4_2
    | .ofNat 3 => lags_4_3
  | .ofNat 5 => match g with
    | .negSucc k => lags_5_n k
    | .ofNat (k + 4) => lags_5_4 k
    | .ofNat 0 => lags_5_0
    | .ofNat 1 => lags_5_1
    | .ofNat 2 => lags_5_2
    | .ofNat 3 => lags_5_3
end Go.Proofs.YtlmmhkcimjjakaaGreatDoor
