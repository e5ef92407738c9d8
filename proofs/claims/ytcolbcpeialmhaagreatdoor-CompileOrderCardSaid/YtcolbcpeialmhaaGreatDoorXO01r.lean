/- Stretches of the program's run, looked at by the kernel. -/
import Derived.Test.YtcolbcpeialmhaaGreatDoorXO01a
namespace Go.Proofs.YtcolbcpeialmhaaGreatDoor
open Go.Ab
noncomputable section
set_option maxRecDepth 1000000
def LO01_6 : List (List Row) := genK mv3 BO01 20 1 spO01 3 (mkE3 spO01 SO01_6 EO01_6)
def GO01_6 (Y : Ys) (Z : Zs) (s : Int) : LkR := stB mv3 okO01 call3 n25 BO01 20 (keepM 20) stO01 SO01_7 LO01_6 Y Z s
theorem gO01_6 (Y : Ys) (Z : Zs) (s : Int) : (GO01_6 Y Z s, takeL (lenL SO01_6) (hdD LO01_6)) = ((true, (GO01_6 Y Z s).2.1, (GO01_6 Y Z s).2.1), SO01_6) := by kernel_rfl
end
noncomputable section
set_option maxRecDepth 1000000
def LO01_7 : List (List Row) := genK mv3 BO01 20 1 spO01 3 (mkE3 spO01 SO01_7 EO01_7)
def GO01_7 (Y : Ys) (Z : Zs) (s : Int) : LkR := stB mv3 okO01 call3 n25 BO01 20 (keepM 20) stO01 SO01_8 LO01_7 Y Z s
theorem gO01_7 (Y : Ys) (Z : Zs) (s : Int) : (GO01_7 Y Z s, takeL (lenL SO01_7) (hdD LO01_7)) = ((true, (GO01_7 Y Z s).2.1, (GO01_7 Y Z s).2.1), SO01_7) := by kernel_rfl
end
noncomputable section
set_option maxRecDepth 1000000
def LO01_8 : List (List Row) := genK mv3 BO01 20 1 spO01 3 (mkE3 spO01 SO01_8 EO01_8)
def GO01_8 (Y : Ys) (Z : Zs) (s : Int) : LkR := stB mv3 okO01 call3 n25 BO01 20 (keepM 20) stO01 [] LO01_8 Y Z s
theorem gO01_8 (Y : Ys) (Z : Zs) (s : Int) : (GO01_8 Y Z s, takeL (lenL SO01_8) (hdD LO01_8)) = ((true, (GO01_8 Y Z s).2.1, (GO01_8 Y Z s).2.1), SO01_8) := by kernel_rfl
end
end Go.Proofs.YtcolbcpeialmhaaGreatDoor
