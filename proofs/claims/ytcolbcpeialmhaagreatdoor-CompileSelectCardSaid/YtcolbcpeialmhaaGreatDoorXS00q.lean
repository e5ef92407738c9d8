/- Stretches of the program's run, looked at by the kernel. -/
import Derived.Test.YtcolbcpeialmhaaGreatDoorXS00a
namespace Go.Proofs.YtcolbcpeialmhaaGreatDoor
open Go.Ab
noncomputable section
set_option maxRecDepth 1000000
def Df : List (List Row) := [K1]
def uT (Y : Ys) (Z : Zs) (s : Int) : LkR := stB mv3 bK al n25 dp 12 (aL 12) bo oR Df Y Z s
theorem TJ (Y : Ys) (Z : Zs) (s : Int) : (uT Y Z s, aJ (aC oS) (hdD Df)) = ((true, (uT Y Z s).2.1, (uT Y Z s).2.1), oS) := by kernel_rfl
end
noncomputable section
set_option maxRecDepth 1000000
def De : List (List Row) := [JZ]
def uS (Y : Ys) (Z : Zs) (s : Int) : LkR := stB mv3 bK al n25 dp 12 (aL 12) bo oQ De Y Z s
theorem TI (Y : Ys) (Z : Zs) (s : Int) : (uS Y Z s, aJ (aC oR) (hdD De)) = ((true, (uS Y Z s).2.1, (uS Y Z s).2.1), oR) := by kernel_rfl
end
noncomputable section
set_option maxRecDepth 1000000
def Dd : List (List Row) := [JY]
def uR (Y : Ys) (Z : Zs) (s : Int) : LkR := stB mv3 bK al n25 dp 12 (aL 12) bo oP Dd Y Z s
theorem TH (Y : Ys) (Z : Zs) (s : Int) : (uR Y Z s, aJ (aC oQ) (hdD Dd)) = ((true, (uR Y Z s).2.1, (uR Y Z s).2.1), oQ) := by kernel_rfl
end
noncomputable section
set_option maxRecDepth 1000000
def Dc : List (List Row) := [EJ]
def uQ (Y : Ys) (Z : Zs) (s : Int) : LkR := stB mv3 bK al n25 dp 12 (aL 12) bo oO Dc Y Z s
theorem TG (Y : Ys) (Z : Zs) (s : Int) : (uQ Y Z s, aJ (aC oP) (hdD Dc)) = ((true, (uQ Y Z s).2.1, (uQ Y Z s).2.1), oP) := by kernel_rfl
end
end Go.Proofs.YtcolbcpeialmhaaGreatDoor
