/- Stretches of the program's run, looked at by the kernel. -/
import Derived.Test.YtcolbcpeialmhaaGreatDoorXS01a
namespace Go.Proofs.YtcolbcpeialmhaaGreatDoor
open Go.Ab
noncomputable section
set_option maxRecDepth 1000000
def D3 : List (List Row) := [ED]
def uG (Y : Ys) (Z : Zs) (s : Int) : LkR := stB mv3 bw al n25 cF 12 (aL 12) bd oF D3 Y Z s
theorem Tw (Y : Ys) (Z : Zs) (s : Int) : (uG Y Z s, aJ (aC oG) (hdD D3)) = ((true, (uG Y Z s).2.1, (uG Y Z s).2.1), oG) := by kernel_rfl
end
noncomputable section
set_option maxRecDepth 1000000
def D2 : List (List Row) := [EC]
def uF (Y : Ys) (Z : Zs) (s : Int) : LkR := stB mv3 bw al n25 cF 12 (aL 12) bd oE D2 Y Z s
theorem Tv (Y : Ys) (Z : Zs) (s : Int) : (uF Y Z s, aJ (aC oF) (hdD D2)) = ((true, (uF Y Z s).2.1, (uF Y Z s).2.1), oF) := by kernel_rfl
end
noncomputable section
set_option maxRecDepth 1000000
def D1 : List (List Row) := [EB]
def uE (Y : Ys) (Z : Zs) (s : Int) : LkR := stB mv3 bw al n25 cF 12 (aL 12) bd kh D1 Y Z s
theorem Tt (Y : Ys) (Z : Zs) (s : Int) : (uE Y Z s, aJ (aC oE) (hdD D1)) = ((true, (uE Y Z s).2.1, (uE Y Z s).2.1), oE) := by kernel_rfl
end
noncomputable section
set_option maxRecDepth 1000000
def tZ : List (List Row) := [EA]
def mC (Y : Ys) (Z : Zs) (s : Int) : LkR := stB mv3 bw al n25 cF 12 (aL 12) bd kg tZ Y Z s
theorem Mq (Y : Ys) (Z : Zs) (s : Int) : (mC Y Z s, aJ (aC kh) (hdD tZ)) = ((true, (mC Y Z s).2.1, (mC Y Z s).2.1), kh) := by kernel_rfl
end
end Go.Proofs.YtcolbcpeialmhaaGreatDoor
