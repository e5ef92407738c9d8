/- Stretches of the program's run, looked at by the kernel. -/
import Derived.Test.YtcolbcpeialmhaaGreatDoorXO11a
namespace Go.Proofs.YtcolbcpeialmhaaGreatDoor
open Go.Ab
noncomputable section
set_option maxRecDepth 1000000
def LO11_3 : List (List Row) := genK mv3 BO11 20 1 spO11 5 (mkE3 spO11 SO11_3 EO11_3)
def GO11_3 (Y : Ys) (Z : Zs) (s : Int) : LkR := stB mv3 okO11 call3 n25 BO11 20 (keepM 20) stO11 SO11_4 LO11_3 Y Z s
theorem gO11_3 (Y : Ys) (Z : Zs) (s : Int) : (GO11_3 Y Z s, takeL (lenL SO11_3) (hdD LO11_3)) = ((true, (GO11_3 Y Z s).2.1, (GO11_3 Y Z s).2.1), SO11_3) := by kernel_rfl
end
noncomputable section
set_option maxRecDepth 1000000
def LO11_4 : List (List Row) := genK mv3 BO11 20 1 spO11 3 (mkE3 spO11 SO11_4 EO11_4)
def GO11_4 (Y : Ys) (Z : Zs) (s : Int) : LkR := stB mv3 okO11 call3 n25 BO11 20 (keepM 20) stO11 SO11_5 LO11_4 Y Z s
theorem gO11_4 (Y : Ys) (Z : Zs) (s : Int) : (GO11_4 Y Z s, takeL (lenL SO11_4) (hdD LO11_4)) = ((true, (GO11_4 Y Z s).2.1, (GO11_4 Y Z s).2.1), SO11_4) := by kernel_rfl
end
noncomputable section
set_option maxRecDepth 1000000
def LO11_5 : List (List Row) := genK mv3 BO11 20 1 spO11 3 (mkE3 spO11 SO11_5 EO11_5)
def GO11_5 (Y : Ys) (Z : Zs) (s : Int) : LkR := stB mv3 okO11 call3 n25 BO11 20 (keepM 20) stO11 SO11_6 LO11_5 Y Z s
theorem gO11_5 (Y : Ys) (Z : Zs) (s : Int) : (GO11_5 Y Z s, takeL (lenL SO11_5) (hdD LO11_5)) = ((true, (GO11_5 Y Z s).2.1, (GO11_5 Y Z s).2.1), SO11_5) := by kernel_rfl
end
end Go.Proofs.YtcolbcpeialmhaaGreatDoor
