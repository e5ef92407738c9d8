/- Stretches of the program's run, looked at by the kernel. -/
import Derived.Test.YtcolbcpeialmhaaGreatDoorXS01a
namespace Go.Proofs.YtcolbcpeialmhaaGreatDoor
open Go.Ab
noncomputable section
set_option maxRecDepth 1000000
def tY : List (List Row) := [Ez]
def mB (Y : Ys) (Z : Zs) (s : Int) : LkR := stB mv3 bw al n25 cF 12 (aL 12) bd k9 tY Y Z s
theorem Mp (Y : Ys) (Z : Zs) (s : Int) : (mB Y Z s, aJ (aC kg) (hdD tY)) = ((true, (mB Y Z s).2.1, (mB Y Z s).2.1), kg) := by kernel_rfl
end
noncomputable section
set_option maxRecDepth 1000000
def tX : List (List Row) := [Ey]
def mA (Y : Ys) (Z : Zs) (s : Int) : LkR := stB mv3 bw al n25 cF 12 (aL 12) bd k8 tX Y Z s
theorem Mo (Y : Ys) (Z : Zs) (s : Int) : (mA Y Z s, aJ (aC k9) (hdD tX)) = ((true, (mA Y Z s).2.1, (mA Y Z s).2.1), k9) := by kernel_rfl
end
noncomputable section
set_option maxRecDepth 1000000
def tW : List (List Row) := [Ew]
def mz (Y : Ys) (Z : Zs) (s : Int) : LkR := stB mv3 bw al n25 cF 12 (aL 12) bd k7 tW Y Z s
theorem Mn (Y : Ys) (Z : Zs) (s : Int) : (mz Y Z s, aJ (aC k8) (hdD tW)) = ((true, (mz Y Z s).2.1, (mz Y Z s).2.1), k8) := by kernel_rfl
end
noncomputable section
set_option maxRecDepth 1000000
def tV : List (List Row) := [Ev]
def my (Y : Ys) (Z : Zs) (s : Int) : LkR := stB mv3 bw al n25 cF 12 (aL 12) bd [] tV Y Z s
theorem Mm (Y : Ys) (Z : Zs) (s : Int) : (my Y Z s, aJ (aC k7) (hdD tV)) = ((true, (my Y Z s).2.1, (my Y Z s).2.1), k7) := by kernel_rfl
end
end Go.Proofs.YtcolbcpeialmhaaGreatDoor
