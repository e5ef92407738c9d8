/- Stretches of the program's run, looked at by the kernel. -/
import Derived.Test.YtcolbcpeialmhaaGreatDoorXS01a
namespace Go.Proofs.YtcolbcpeialmhaaGreatDoor
open Go.Ab
noncomputable section
set_option maxRecDepth 1000000
def YI : List (List Row) := [j4]
theorem TU : aJ (aC oI) (dsL j4) = oI := by kernel_rfl
def uJ (Y : Ys) (Z : Zs) (s : Int) : LkR := hfB mv3 bw al n25 cF 12 (aL 12) bd l3 j4 (aJ 15 j4) Y Z s
theorem Tz (Y : Ys) (Z : Zs) (s : Int) : uJ Y Z s = (true, (uJ Y Z s).2.1, (uJ Y Z s).2.1) := by kernel_rfl
end
noncomputable section
set_option maxRecDepth 1000000
def mw (Y : Ys) (Z : Zs) (s : Int) : LkR := hfB mv3 bw al n25 cF 12 (aL 12) bd l3 j4 (DY 15 j4) Y Z s
theorem Ml (Y : Ys) (Z : Zs) (s : Int) : mw Y Z s = (true, (mw Y Z s).2.1, (mw Y Z s).2.1) := by kernel_rfl
end
noncomputable section
set_option maxRecDepth 1000000
def D5 : List (List Row) := [JT]
def uI (Y : Ys) (Z : Zs) (s : Int) : LkR := stB mv3 bw al n25 cF 12 (aL 12) bd oH D5 Y Z s
theorem Ty (Y : Ys) (Z : Zs) (s : Int) : (uI Y Z s, aJ (aC l3) (hdD D5)) = ((true, (uI Y Z s).2.1, (uI Y Z s).2.1), l3) := by kernel_rfl
end
noncomputable section
set_option maxRecDepth 1000000
def D4 : List (List Row) := [JS]
def uH (Y : Ys) (Z : Zs) (s : Int) : LkR := stB mv3 bw al n25 cF 12 (aL 12) bd oG D4 Y Z s
theorem Tx (Y : Ys) (Z : Zs) (s : Int) : (uH Y Z s, aJ (aC oH) (hdD D4)) = ((true, (uH Y Z s).2.1, (uH Y Z s).2.1), oH) := by kernel_rfl
end
end Go.Proofs.YtcolbcpeialmhaaGreatDoor
