/- Stretches of the program's run, looked at by the kernel. -/
import Derived.Test.YtcolbcpeialmhaaGreatDoorXO10a
namespace Go.Proofs.YtcolbcpeialmhaaGreatDoor
open Go.Ab
noncomputable section
set_option maxRecDepth 1000000
def LO10_6 : List (List Row) := genK mv3 BO10 20 1 spO10 3 (mkE3 spO10 SO10_6 EO10_6)
def GO10_6 (Y : Ys) (Z : Zs) (s : Int) : LkR := stB mv3 okO10 call3 n25 BO10 20 (keepM 20) stO10 SO10_7 LO10_6 Y Z s
theorem gO10_6 (Y : Ys) (Z : Zs) (s : Int) : (GO10_6 Y Z s, takeL (lenL SO10_6) (hdD LO10_6)) = ((true, (GO10_6 Y Z s).2.1, (GO10_6 Y Z s).2.1), SO10_6) := by kernel_rfl
end
noncomputable section
set_option maxRecDepth 1000000
def LO10_7 : List (List Row) := genK mv3 BO10 20 1 spO10 3 (mkE3 spO10 SO10_7 EO10_7)
def GO10_7 (Y : Ys) (Z : Zs) (s : Int) : LkR := stB mv3 okO10 call3 n25 BO10 20 (keepM 20) stO10 SO10_8 LO10_7 Y Z s
theorem gO10_7 (Y : Ys) (Z : Zs) (s : Int) : (GO10_7 Y Z s, takeL (lenL SO10_7) (hdD LO10_7)) = ((true, (GO10_7 Y Z s).2.1, (GO10_7 Y Z s).2.1), SO10_7) := by kernel_rfl
end
noncomputable section
set_option maxRecDepth 1000000
def LO10_8 : List (List Row) := genK mv3 BO10 20 1 spO10 3 (mkE3 spO10 SO10_8 EO10_8)
def GO10_8 (Y : Ys) (Z : Zs) (s : Int) : LkR := stB mv3 okO10 call3 n25 BO10 20 (keepM 20) stO10 [] LO10_8 Y Z s
theorem gO10_8 (Y : Ys) (Z : Zs) (s : Int) : (GO10_8 Y Z s, takeL (lenL SO10_8) (hdD LO10_8)) = ((true, (GO10_8 Y Z s).2.1, (GO10_8 Y Z s).2.1), SO10_8) := by kernel_rfl
end
end Go.Proofs.YtcolbcpeialmhaaGreatDoor
