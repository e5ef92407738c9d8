/- Stretches of the program's run, looked at by the kernel. -/
import Derived.Test.YtcolbcpeialmhaaGreatDoorXO00a
namespace Go.Proofs.YtcolbcpeialmhaaGreatDoor
open Go.Ab
noncomputable section
set_option maxRecDepth 1000000
def LO00_3 : List (List Row) := genK mv3 BO00 20 1 spO00 4 (mkE3 spO00 SO00_3 EO00_3)
def GO00_3 (Y : Ys) (Z : Zs) (s : Int) : LkR := stB mv3 okO00 call3 n25 BO00 20 (keepM 20) stO00 SO00_4 LO00_3 Y Z s
theorem gO00_3 (Y : Ys) (Z : Zs) (s : Int) : (GO00_3 Y Z s, takeL (lenL SO00_3) (hdD LO00_3)) = ((true, (GO00_3 Y Z s).2.1, (GO00_3 Y Z s).2.1), SO00_3) := by kernel_rfl
end
noncomputable section
set_option maxRecDepth 1000000
def LO00_4 : List (List Row) := genK mv3 BO00 20 1 spO00 3 (mkE3 spO00 SO00_4 EO00_4)
def GO00_4 (Y : Ys) (Z : Zs) (s : Int) : LkR := stB mv3 okO00 call3 n25 BO00 20 (keepM 20) stO00 SO00_5 LO00_4 Y Z s
theorem gO00_4 (Y : Ys) (Z : Zs) (s : Int) : (GO00_4 Y Z s, takeL (lenL SO00_4) (hdD LO00_4)) = ((true, (GO00_4 Y Z s).2.1, (GO00_4 Y Z s).2.1), SO00_4) := by kernel_rfl
end
noncomputable section
set_option maxRecDepth 1000000
def LO00_5 : List (List Row) := genK mv3 BO00 20 1 spO00 3 (mkE3 spO00 SO00_5 EO00_5)
def GO00_5 (Y : Ys) (Z : Zs) (s : Int) : LkR := stB mv3 okO00 call3 n25 BO00 20 (keepM 20) stO00 SO00_6 LO00_5 Y Z s
theorem gO00_5 (Y : Ys) (Z : Zs) (s : Int) : (GO00_5 Y Z s, takeL (lenL SO00_5) (hdD LO00_5)) = ((true, (GO00_5 Y Z s).2.1, (GO00_5 Y Z s).2.1), SO00_5) := by kernel_rfl
end
end Go.Proofs.YtcolbcpeialmhaaGreatDoor
