/- Stretches of the program's run, looked at by the kernel. -/
import Derived.Test.YtcolbcpeialmhaaGreatDoorXS00a
namespace Go.Proofs.YtcolbcpeialmhaaGreatDoor
open Go.Ab
noncomputable section
set_option maxRecDepth 1000000
def Dj : List (List Row) := [K6, YF, YE, YD]
def uX (Y : Ys) (Z : Zs) (s : Int) : LkR := stB mv3 bK al n25 dp 12 (aL 12) bo oV Dj Y Z s
theorem TP (Y : Ys) (Z : Zs) (s : Int) : (uX Y Z s, aJ (aC oW) (hdD Dj)) = ((true, (uX Y Z s).2.1, (uX Y Z s).2.1), oW) := by kernel_rfl
end
noncomputable section
set_option maxRecDepth 1000000
def Di : List (List Row) := [K5]
def uW (Y : Ys) (Z : Zs) (s : Int) : LkR := stB mv3 bK al n25 dp 12 (aL 12) bo oU Di Y Z s
theorem TN (Y : Ys) (Z : Zs) (s : Int) : (uW Y Z s, aJ (aC oV) (hdD Di)) = ((true, (uW Y Z s).2.1, (uW Y Z s).2.1), oV) := by kernel_rfl
end
noncomputable section
set_option maxRecDepth 1000000
def Dh : List (List Row) := [K4]
def uV (Y : Ys) (Z : Zs) (s : Int) : LkR := stB mv3 bK al n25 dp 12 (aL 12) bo oT Dh Y Z s
theorem TL (Y : Ys) (Z : Zs) (s : Int) : (uV Y Z s, aJ (aC oU) (hdD Dh)) = ((true, (uV Y Z s).2.1, (uV Y Z s).2.1), oU) := by kernel_rfl
end
noncomputable section
set_option maxRecDepth 1000000
def Dg : List (List Row) := [K3]
def uU (Y : Ys) (Z : Zs) (s : Int) : LkR := stB mv3 bK al n25 dp 12 (aL 12) bo oS Dg Y Z s
theorem TK (Y : Ys) (Z : Zs) (s : Int) : (uU Y Z s, aJ (aC oT) (hdD Dg)) = ((true, (uU Y Z s).2.1, (uU Y Z s).2.1), oT) := by kernel_rfl
end
end Go.Proofs.YtcolbcpeialmhaaGreatDoor
