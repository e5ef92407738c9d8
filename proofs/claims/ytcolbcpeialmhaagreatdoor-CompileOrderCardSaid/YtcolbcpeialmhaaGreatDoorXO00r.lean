/- Stretches of the program's run, looked at by the kernel. -/
import Derived.Test.YtcolbcpeialmhaaGreatDoorXO00a
namespace Go.Proofs.YtcolbcpeialmhaaGreatDoor
open Go.Ab
noncomputable section
set_option maxRecDepth 1000000
def LO00_6 : List (List Row) := genK mv3 BO00 20 1 spO00 3 (mkE3 spO00 SO00_6 EO00_6)
def GO00_6 (Y : Ys) (Z : Zs) (s : Int) : LkR := stB mv3 okO00 call3 n25 BO00 20 (keepM 20) stO00 SO00_7 LO00_6 Y Z s
theorem gO00_6 (Y : Ys) (Z : Zs) (s : Int) : (GO00_6 Y Z s, takeL (lenL SO00_6) (hdD LO00_6)) = ((true, (GO00_6 Y Z s).2.1, (GO00_6 Y Z s).2.1), SO00_6) := by kernel_rfl
end
noncomputable section
set_option maxRecDepth 1000000
def LO00_7 : List (List Row) := genK mv3 BO00 20 1 spO00 3 (mkE3 spO00 SO00_7 EO00_7)
def GO00_7 (Y : Ys) (Z : Zs) (s : Int) : LkR := stB mv3 okO00 call3 n25 BO00 20 (keepM 20) stO00 SO00_8 LO00_7 Y Z s
theorem gO00_7 (Y : Ys) (Z : Zs) (s : Int) : (GO00_7 Y Z s, takeL (lenL SO00_7) (hdD LO00_7)) = ((true, (GO00_7 Y Z s).2.1, (GO00_7 Y Z s).2.1), SO00_7) := by kernel_rfl
end
noncomputable section
set_option maxRecDepth 1000000
def LO00_8 : List (List Row) := genK mv3 BO00 20 1 spO00 3 (mkE3 spO00 SO00_8 EO00_8)
def GO00_8 (Y : Ys) (Z : Zs) (s : Int) : LkR := stB mv3 okO00 call3 n25 BO00 20 (keepM 20) stO00 [] LO00_8 Y Z s
theorem gO00_8 (Y : Ys) (Z : Zs) (s : Int) : (GO00_8 Y Z s, takeL (lenL SO00_8) (hdD LO00_8)) = ((true, (GO00_8 Y Z s).2.1, (GO00_8 Y Z s).2.1), SO00_8) := by kernel_rfl
end
end Go.Proofs.YtcolbcpeialmhaaGreatDoor
