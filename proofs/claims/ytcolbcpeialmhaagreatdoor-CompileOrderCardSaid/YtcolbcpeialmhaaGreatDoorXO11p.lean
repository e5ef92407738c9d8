/- Stretches of the program's run, looked at by the kernel. -/
import Derived.Test.YtcolbcpeialmhaaGreatDoorXO11a
namespace Go.Proofs.YtcolbcpeialmhaaGreatDoor
open Go.Ab
noncomputable section
set_option maxRecDepth 1000000
def LO11_0 : List (List Row) := genK mv3 BO11 20 1 spO11 15 (mkE3 spO11 SO11_0 EO11_0)
def GO11_0 (Y : Ys) (Z : Zs) (s : Int) : LkR := stB mv3 okO11 call3 n25 BO11 20 (keepM 20) stO11 SO11_1 LO11_0 Y Z s
theorem gO11_0 (Y : Ys) (Z : Zs) (s : Int) : (GO11_0 Y Z s, takeL (lenL SO11_0) (hdD LO11_0)) = ((true, (GO11_0 Y Z s).2.1, (GO11_0 Y Z s).2.1), SO11_0) := by kernel_rfl
end
noncomputable section
set_option maxRecDepth 1000000
def LO11_1 : List (List Row) := genK mv3 BO11 20 1 spO11 14 (mkE3 spO11 SO11_1 EO11_1)
def GO11_1 (Y : Ys) (Z : Zs) (s : Int) : LkR := stB mv3 okO11 call3 n25 BO11 20 (keepM 20) stO11 SO11_2 LO11_1 Y Z s
theorem gO11_1 (Y : Ys) (Z : Zs) (s : Int) : (GO11_1 Y Z s, takeL (lenL SO11_1) (hdD LO11_1)) = ((true, (GO11_1 Y Z s).2.1, (GO11_1 Y Z s).2.1), SO11_1) := by kernel_rfl
end
noncomputable section
set_option maxRecDepth 1000000
def LO11_2 : List (List Row) := genK mv3 BO11 20 1 spO11 6 (mkE3 spO11 SO11_2 EO11_2)
def GO11_2 (Y : Ys) (Z : Zs) (s : Int) : LkR := stB mv3 okO11 call3 n25 BO11 20 (keepM 20) stO11 SO11_3 LO11_2 Y Z s
theorem gO11_2 (Y : Ys) (Z : Zs) (s : Int) : (GO11_2 Y Z s, takeL (lenL SO11_2) (hdD LO11_2)) = ((true, (GO11_2 Y Z s).2.1, (GO11_2 Y Z s).2.1), SO11_2) := by kernel_rfl
end
end Go.Proofs.YtcolbcpeialmhaaGreatDoor
