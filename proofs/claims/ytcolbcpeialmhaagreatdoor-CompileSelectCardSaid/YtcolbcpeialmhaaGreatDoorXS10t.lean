/- Stretches of the program's run, looked at by the kernel. -/
import Derived.Test.YtcolbcpeialmhaaGreatDoorXS10a
namespace Go.Proofs.YtcolbcpeialmhaaGreatDoor
open Go.Ab
noncomputable section
set_option maxRecDepth 1000000
def tS : List (List Row) := [Eo]
def mq (Y : Ys) (Z : Zs) (s : Int) : LkR := stB mv3 bB al n25 cI 12 (aL 12) bf jZ tS Y Z s
theorem Mh (Y : Ys) (Z : Zs) (s : Int) : (mq Y Z s, aJ (aC k4) (hdD tS)) = ((true, (mq Y Z s).2.1, (mq Y Z s).2.1), k4) := by kernel_rfl
end
noncomputable section
set_option maxRecDepth 1000000
def tR : List (List Row) := [Em]
def mo (Y : Ys) (Z : Zs) (s : Int) : LkR := stB mv3 bB al n25 cI 12 (aL 12) bf jY tR Y Z s
theorem Mg (Y : Ys) (Z : Zs) (s : Int) : (mo Y Z s, aJ (aC jZ) (hdD tR)) = ((true, (mo Y Z s).2.1, (mo Y Z s).2.1), jZ) := by kernel_rfl
end
noncomputable section
set_option maxRecDepth 1000000
def tQ : List (List Row) := [El]
def mn (Y : Ys) (Z : Zs) (s : Int) : LkR := stB mv3 bB al n25 cI 12 (aL 12) bf [] tQ Y Z s
theorem Mf (Y : Ys) (Z : Zs) (s : Int) : (mn Y Z s, aJ (aC jY) (hdD tQ)) = ((true, (mn Y Z s).2.1, (mn Y Z s).2.1), jY) := by kernel_rfl
end
end Go.Proofs.YtcolbcpeialmhaaGreatDoor
