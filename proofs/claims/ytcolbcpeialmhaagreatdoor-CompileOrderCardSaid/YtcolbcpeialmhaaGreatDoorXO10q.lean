/- Stretches of the program's run, looked at by the kernel. -/
import Derived.Test.YtcolbcpeialmhaaGreatDoorXO10a
namespace Go.Proofs.YtcolbcpeialmhaaGreatDoor
open Go.Ab
noncomputable section
set_option maxRecDepth 1000000
def LO10_3 : List (List Row) := genK mv3 BO10 20 1 spO10 4 (mkE3 spO10 SO10_3 EO10_3)
def GO10_3 (Y : Ys) (Z : Zs) (s : Int) : LkR := stB mv3 okO10 call3 n25 BO10 20 (keepM 20) stO10 SO10_4 LO10_3 Y Z s
theorem gO10_3 (Y : Ys) (Z : Zs) (s : Int) : (GO10_3 Y Z s, takeL (lenL SO10_3) (hdD LO10_3)) = ((true, (GO10_3 Y Z s).2.1, (GO10_3 Y Z s).2.1), SO10_3) := by kernel_rfl
end
noncomputable section
set_option maxRecDepth 1000000
def LO10_4 : List (List Row) := genK mv3 BO10 20 1 spO10 3 (mkE3 spO10 SO10_4 EO10_4)
def GO10_4 (Y : Ys) (Z : Zs) (s : Int) : LkR := stB mv3 okO10 call3 n25 BO10 20 (keepM 20) stO10 SO10_5 LO10_4 Y Z s
theorem gO10_4 (Y : Ys) (Z : Zs) (s : Int) : (GO10_4 Y Z s, takeL (lenL SO10_4) (hdD LO10_4)) = ((true, (GO10_4 Y Z s).2.1, (GO10_4 Y Z s).2.1), SO10_4) := by kernel_rfl
end
noncomputable section
set_option maxRecDepth 1000000
def LO10_5 : List (List Row) := genK mv3 BO10 20 1 spO10 3 (mkE3 spO10 SO10_5 EO10_5)
def GO10_5 (Y : Ys) (Z : Zs) (s : Int) : LkR := stB mv3 okO10 call3 n25 BO10 20 (keepM 20) stO10 SO10_6 LO10_5 Y Z s
theorem gO10_5 (Y : Ys) (Z : Zs) (s : Int) : (GO10_5 Y Z s, takeL (lenL SO10_5) (hdD LO10_5)) = ((true, (GO10_5 Y Z s).2.1, (GO10_5 Y Z s).2.1), SO10_5) := by kernel_rfl
end
end Go.Proofs.YtcolbcpeialmhaaGreatDoor
