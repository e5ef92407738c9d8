/- Stretches of the program's run, looked at by the kernel. -/
import Derived.Test.YtcolbcpeialmhaaGreatDoorXS01a
namespace Go.Proofs.YtcolbcpeialmhaaGreatDoor
open Go.Ab
noncomputable section
set_option maxRecDepth 1000000
def D9 : List (List Row) := [JX, YC, YB, YA]
def uN (Y : Ys) (Z : Zs) (s : Int) : LkR := stB mv3 bw al n25 cF 12 (aL 12) bd oL D9 Y Z s
theorem TD (Y : Ys) (Z : Zs) (s : Int) : (uN Y Z s, aJ (aC oM) (hdD D9)) = ((true, (uN Y Z s).2.1, (uN Y Z s).2.1), oM) := by kernel_rfl
end
noncomputable section
set_option maxRecDepth 1000000
def D8 : List (List Row) := [JW]
def uM (Y : Ys) (Z : Zs) (s : Int) : LkR := stB mv3 bw al n25 cF 12 (aL 12) bd oK D8 Y Z s
theorem TC (Y : Ys) (Z : Zs) (s : Int) : (uM Y Z s, aJ (aC oL) (hdD D8)) = ((true, (uM Y Z s).2.1, (uM Y Z s).2.1), oL) := by kernel_rfl
end
noncomputable section
set_option maxRecDepth 1000000
def D7 : List (List Row) := [JV]
def uL (Y : Ys) (Z : Zs) (s : Int) : LkR := stB mv3 bw al n25 cF 12 (aL 12) bd oJ D7 Y Z s
theorem TB (Y : Ys) (Z : Zs) (s : Int) : (uL Y Z s, aJ (aC oK) (hdD D7)) = ((true, (uL Y Z s).2.1, (uL Y Z s).2.1), oK) := by kernel_rfl
end
noncomputable section
set_option maxRecDepth 1000000
def D6 : List (List Row) := [JU]
def uK (Y : Ys) (Z : Zs) (s : Int) : LkR := stB mv3 bw al n25 cF 12 (aL 12) bd oI D6 Y Z s
theorem TA (Y : Ys) (Z : Zs) (s : Int) : (uK Y Z s, aJ (aC oJ) (hdD D6)) = ((true, (uK Y Z s).2.1, (uK Y Z s).2.1), oJ) := by kernel_rfl
end
end Go.Proofs.YtcolbcpeialmhaaGreatDoor
