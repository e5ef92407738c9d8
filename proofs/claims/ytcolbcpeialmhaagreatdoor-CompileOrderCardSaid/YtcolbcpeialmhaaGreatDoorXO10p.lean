/- Stretches of the program's run, looked at by the kernel. -/
import Derived.Test.YtcolbcpeialmhaaGreatDoorXO10a
namespace Go.Proofs.YtcolbcpeialmhaaGreatDoor
open Go.Ab
noncomputable section
set_option maxRecDepth 1000000
def LO10_0 : List (List Row) := genK mv3 BO10 20 1 spO10 15 (mkE3 spO10 SO10_0 EO10_0)
def GO10_0 (Y : Ys) (Z : Zs) (s : Int) : LkR := stB mv3 okO10 call3 n25 BO10 20 (keepM 20) stO10 SO10_1 LO10_0 Y Z s
theorem gO10_0 (Y : Ys) (Z : Zs) (s : Int) : (GO10_0 Y Z s, takeL (lenL SO10_0) (hdD LO10_0)) = ((true, (GO10_0 Y Z s).2.1, (GO10_0 Y Z s).2.1), SO10_0) := by kernel_rfl
end
noncomputable section
set_option maxRecDepth 1000000
def LO10_1 : List (List Row) := genK mv3 BO10 20 1 spO10 14 (mkE3 spO10 SO10_1 EO10_1)
def GO10_1 (Y : Ys) (Z : Zs) (s : Int) : LkR := stB mv3 okO10 call3 n25 BO10 20 (keepM 20) stO10 SO10_2 LO10_1 Y Z s
theorem gO10_1 (Y : Ys) (Z : Zs) (s : Int) : (GO10_1 Y Z s, takeL (lenL SO10_1) (hdD LO10_1)) = ((true, (GO10_1 Y Z s).2.1, (GO10_1 Y Z s).2.1), SO10_1) := by kernel_rfl
end
noncomputable section
set_option maxRecDepth 1000000
def LO10_2 : List (List Row) := genK mv3 BO10 20 1 spO10 6 (mkE3 spO10 SO10_2 EO10_2)
def GO10_2 (Y : Ys) (Z : Zs) (s : Int) : LkR := stB mv3 okO10 call3 n25 BO10 20 (keepM 20) stO10 SO10_3 LO10_2 Y Z s
theorem gO10_2 (Y : Ys) (Z : Zs) (s : Int) : (GO10_2 Y Z s, takeL (lenL SO10_2) (hdD LO10_2)) = ((true, (GO10_2 Y Z s).2.1, (GO10_2 Y Z s).2.1), SO10_2) := by kernel_rfl
end
end Go.Proofs.YtcolbcpeialmhaaGreatDoor
