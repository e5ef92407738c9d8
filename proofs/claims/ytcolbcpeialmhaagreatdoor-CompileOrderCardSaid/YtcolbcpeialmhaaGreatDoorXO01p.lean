/- Stretches of the program's run, looked at by the kernel. -/
import Derived.Test.YtcolbcpeialmhaaGreatDoorXO01a
namespace Go.Proofs.YtcolbcpeialmhaaGreatDoor
open Go.Ab
noncomputable section
set_option maxRecDepth 1000000
def LO01_0 : List (List Row) := genK mv3 BO01 20 1 spO01 15 (mkE3 spO01 SO01_0 EO01_0)
def GO01_0 (Y : Ys) (Z : Zs) (s : Int) : LkR := stB mv3 okO01 call3 n25 BO01 20 (keepM 20) stO01 SO01_1 LO01_0 Y Z s
theorem gO01_0 (Y : Ys) (Z : Zs) (s : Int) : (GO01_0 Y Z s, takeL (lenL SO01_0) (hdD LO01_0)) = ((true, (GO01_0 Y Z s).2.1, (GO01_0 Y Z s).2.1), SO01_0) := by kernel_rfl
end
noncomputable section
set_option maxRecDepth 1000000
def LO01_1 : List (List Row) := genK mv3 BO01 20 1 spO01 14 (mkE3 spO01 SO01_1 EO01_1)
def GO01_1 (Y : Ys) (Z : Zs) (s : Int) : LkR := stB mv3 okO01 call3 n25 BO01 20 (keepM 20) stO01 SO01_2 LO01_1 Y Z s
theorem gO01_1 (Y : Ys) (Z : Zs) (s : Int) : (GO01_1 Y Z s, takeL (lenL SO01_1) (hdD LO01_1)) = ((true, (GO01_1 Y Z s).2.1, (GO01_1 Y Z s).2.1), SO01_1) := by kernel_rfl
end
noncomputable section
set_option maxRecDepth 1000000
def LO01_2 : List (List Row) := genK mv3 BO01 20 1 spO01 6 (mkE3 spO01 SO01_2 EO01_2)
def GO01_2 (Y : Ys) (Z : Zs) (s : Int) : LkR := stB mv3 okO01 call3 n25 BO01 20 (keepM 20) stO01 SO01_3 LO01_2 Y Z s
theorem gO01_2 (Y : Ys) (Z : Zs) (s : Int) : (GO01_2 Y Z s, takeL (lenL SO01_2) (hdD LO01_2)) = ((true, (GO01_2 Y Z s).2.1, (GO01_2 Y Z s).2.1), SO01_2) := by kernel_rfl
end
end Go.Proofs.YtcolbcpeialmhaaGreatDoor
