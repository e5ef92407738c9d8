/- Stretches of the program's run, looked at by the kernel. -/
import Derived.Test.YtcolbcpeialmhaaGreatDoorXO00a
namespace Go.Proofs.YtcolbcpeialmhaaGreatDoor
open Go.Ab
noncomputable section
set_option maxRecDepth 1000000
def LO00_0 : List (List Row) := genK mv3 BO00 20 1 spO00 15 (mkE3 spO00 SO00_0 EO00_0)
def GO00_0 (Y : Ys) (Z : Zs) (s : Int) : LkR := stB mv3 okO00 call3 n25 BO00 20 (keepM 20) stO00 SO00_1 LO00_0 Y Z s
theorem gO00_0 (Y : Ys) (Z : Zs) (s : Int) : (GO00_0 Y Z s, takeL (lenL SO00_0) (hdD LO00_0)) = ((true, (GO00_0 Y Z s).2.1, (GO00_0 Y Z s).2.1), SO00_0) := by kernel_rfl
end
noncomputable section
set_option maxRecDepth 1000000
def LO00_1 : List (List Row) := genK mv3 BO00 20 1 spO00 14 (mkE3 spO00 SO00_1 EO00_1)
def GO00_1 (Y : Ys) (Z : Zs) (s : Int) : LkR := stB mv3 okO00 call3 n25 BO00 20 (keepM 20) stO00 SO00_2 LO00_1 Y Z s
theorem gO00_1 (Y : Ys) (Z : Zs) (s : Int) : (GO00_1 Y Z s, takeL (lenL SO00_1) (hdD LO00_1)) = ((true, (GO00_1 Y Z s).2.1, (GO00_1 Y Z s).2.1), SO00_1) := by kernel_rfl
end
noncomputable section
set_option maxRecDepth 1000000
def LO00_2 : List (List Row) := genK mv3 BO00 20 1 spO00 6 (mkE3 spO00 SO00_2 EO00_2)
def GO00_2 (Y : Ys) (Z : Zs) (s : Int) : LkR := stB mv3 okO00 call3 n25 BO00 20 (keepM 20) stO00 SO00_3 LO00_2 Y Z s
theorem gO00_2 (Y : Ys) (Z : Zs) (s : Int) : (GO00_2 Y Z s, takeL (lenL SO00_2) (hdD LO00_2)) = ((true, (GO00_2 Y Z s).2.1, (GO00_2 Y Z s).2.1), SO00_2) := by kernel_rfl
end
end Go.Proofs.YtcolbcpeialmhaaGreatDoor
