/- Stretches of the program's run, looked at by the kernel. -/
import Derived.Test.YtcolbcpeialmhaaGreatDoorXO01a
namespace Go.Proofs.YtcolbcpeialmhaaGreatDoor
open Go.Ab
noncomputable section
set_option maxRecDepth 1000000
def LO01_3 : List (List Row) := genK mv3 BO01 20 1 spO01 5 (mkE3 spO01 SO01_3 EO01_3)
def GO01_3 (Y : Ys) (Z : Zs) (s : Int) : LkR := stB mv3 okO01 call3 n25 BO01 20 (keepM 20) stO01 SO01_4 LO01_3 Y Z s
theorem gO01_3 (Y : Ys) (Z : Zs) (s : Int) : (GO01_3 Y Z s, takeL (lenL SO01_3) (hdD LO01_3)) = ((true, (GO01_3 Y Z s).2.1, (GO01_3 Y Z s).2.1), SO01_3) := by kernel_rfl
end
noncomputable section
set_option maxRecDepth 1000000
def LO01_4 : List (List Row) := genK mv3 BO01 20 1 spO01 3 (mkE3 spO01 SO01_4 EO01_4)
def GO01_4 (Y : Ys) (Z : Zs) (s : Int) : LkR := stB mv3 okO01 call3 n25 BO01 20 (keepM 20) stO01 SO01_5 LO01_4 Y Z s
theorem gO01_4 (Y : Ys) (Z : Zs) (s : Int) : (GO01_4 Y Z s, takeL (lenL SO01_4) (hdD LO01_4)) = ((true, (GO01_4 Y Z s).2.1, (GO01_4 Y Z s).2.1), SO01_4) := by kernel_rfl
end
noncomputable section
set_option maxRecDepth 1000000
def LO01_5 : List (List Row) := genK mv3 BO01 20 1 spO01 3 (mkE3 spO01 SO01_5 EO01_5)
def GO01_5 (Y : Ys) (Z : Zs) (s : Int) : LkR := stB mv3 okO01 call3 n25 BO01 20 (keepM 20) stO01 SO01_6 LO01_5 Y Z s
theorem gO01_5 (Y : Ys) (Z : Zs) (s : Int) : (GO01_5 Y Z s, takeL (lenL SO01_5) (hdD LO01_5)) = ((true, (GO01_5 Y Z s).2.1, (GO01_5 Y Z s).2.1), SO01_5) := by kernel_rfl
end
end Go.Proofs.YtcolbcpeialmhaaGreatDoor
