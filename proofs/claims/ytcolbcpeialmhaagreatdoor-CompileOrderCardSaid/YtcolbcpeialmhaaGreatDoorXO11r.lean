/- Stretches of the program's run, looked at by the kernel. -/
import Derived.Test.YtcolbcpeialmhaaGreatDoorXO11a
namespace Go.Proofs.YtcolbcpeialmhaaGreatDoor
open Go.Ab
noncomputable section
set_option maxRecDepth 1000000
def LO11_6 : List (List Row) := genK mv3 BO11 20 1 spO11 3 (mkE3 spO11 SO11_6 EO11_6)
def GO11_6 (Y : Ys) (Z : Zs) (s : Int) : LkR := stB mv3 okO11 call3 n25 BO11 20 (keepM 20) stO11 SO11_7 LO11_6 Y Z s
theorem gO11_6 (Y : Ys) (Z : Zs) (s : Int) : (GO11_6 Y Z s, takeL (lenL SO11_6) (hdD LO11_6)) = ((true, (GO11_6 Y Z s).2.1, (GO11_6 Y Z s).2.1), SO11_6) := by kernel_rfl
end
noncomputable section
set_option maxRecDepth 1000000
def LO11_7 : List (List Row) := genK mv3 BO11 20 1 spO11 3 (mkE3 spO11 SO11_7 EO11_7)
def GO11_7 (Y : Ys) (Z : Zs) (s : Int) : LkR := stB mv3 okO11 call3 n25 BO11 20 (keepM 20) stO11 SO11_8 LO11_7 Y Z s
theorem gO11_7 (Y : Ys) (Z : Zs) (s : Int) : (GO11_7 Y Z s, takeL (lenL SO11_7) (hdD LO11_7)) = ((true, (GO11_7 Y Z s).2.1, (GO11_7 Y Z s).2.1), SO11_7) := by kernel_rfl
end
noncomputable section
set_option maxRecDepth 1000000
def LO11_8 : List (List Row) := genK mv3 BO11 20 1 spO11 3 (mkE3 spO11 SO11_8 EO11_8)
def GO11_8 (Y : Ys) (Z : Zs) (s : Int) : LkR := stB mv3 okO11 call3 n25 BO11 20 (keepM 20) stO11 [] LO11_8 Y Z s
theorem gO11_8 (Y : Ys) (Z : Zs) (s : Int) : (GO11_8 Y Z s, takeL (lenL SO11_8) (hdD LO11_8)) = ((true, (GO11_8 Y Z s).2.1, (GO11_8 Y Z s).2.1), SO11_8) := by kernel_rfl
end
end Go.Proofs.YtcolbcpeialmhaaGreatDoor
