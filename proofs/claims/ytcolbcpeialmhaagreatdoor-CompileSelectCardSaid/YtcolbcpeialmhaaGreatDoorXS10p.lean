/- Stretches of the program's run, looked at by the kernel. -/
import Derived.Test.YtcolbcpeialmhaaGreatDoorXS10a
namespace Go.Proofs.YtcolbcpeialmhaaGreatDoor
open Go.Ab
noncomputable section
set_option maxRecDepth 1000000
def CZ : List (List Row) := [JR, Yz, Yy, Yx]
def uD (Y : Ys) (Z : Zs) (s : Int) : LkR := stB mv3 bB al n25 cI 12 (aL 12) bf oC CZ Y Z s
theorem Ts (Y : Ys) (Z : Zs) (s : Int) : (uD Y Z s, aJ (aC oD) (hdD CZ)) = ((true, (uD Y Z s).2.1, (uD Y Z s).2.1), oD) := by kernel_rfl
end
noncomputable section
set_option maxRecDepth 1000000
def CY : List (List Row) := [JQ]
def uC (Y : Ys) (Z : Zs) (s : Int) : LkR := stB mv3 bB al n25 cI 12 (aL 12) bf oB CY Y Z s
theorem Tq (Y : Ys) (Z : Zs) (s : Int) : (uC Y Z s, aJ (aC oC) (hdD CY)) = ((true, (uC Y Z s).2.1, (uC Y Z s).2.1), oC) := by kernel_rfl
end
noncomputable section
set_option maxRecDepth 1000000
def CX : List (List Row) := [JP]
def uB (Y : Ys) (Z : Zs) (s : Int) : LkR := stB mv3 bB al n25 cI 12 (aL 12) bf oA CX Y Z s
theorem To (Y : Ys) (Z : Zs) (s : Int) : (uB Y Z s, aJ (aC oB) (hdD CX)) = ((true, (uB Y Z s).2.1, (uB Y Z s).2.1), oB) := by kernel_rfl
end
noncomputable section
set_option maxRecDepth 1000000
def CW : List (List Row) := [JO]
def uA (Y : Ys) (Z : Zs) (s : Int) : LkR := stB mv3 bB al n25 cI 12 (aL 12) bf oz CW Y Z s
theorem Tn (Y : Ys) (Z : Zs) (s : Int) : (uA Y Z s, aJ (aC oA) (hdD CW)) = ((true, (uA Y Z s).2.1, (uA Y Z s).2.1), oA) := by kernel_rfl
end
end Go.Proofs.YtcolbcpeialmhaaGreatDoor
