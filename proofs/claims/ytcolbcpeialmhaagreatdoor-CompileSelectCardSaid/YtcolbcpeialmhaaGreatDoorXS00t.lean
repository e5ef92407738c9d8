/- Stretches of the program's run, looked at by the kernel. -/
import Derived.Test.YtcolbcpeialmhaaGreatDoorXS00a
namespace Go.Proofs.YtcolbcpeialmhaaGreatDoor
open Go.Ab
noncomputable section
set_option maxRecDepth 1000000
def ua : List (List Row) := [EE]
def mD (Y : Ys) (Z : Zs) (s : Int) : LkR := stB mv3 bK al n25 dp 12 (aL 12) bo [] ua Y Z s
theorem Mr (Y : Ys) (Z : Zs) (s : Int) : (mD Y Z s, aJ (aC ki) (hdD ua)) = ((true, (mD Y Z s).2.1, (mD Y Z s).2.1), ki) := by kernel_rfl
end
end Go.Proofs.YtcolbcpeialmhaaGreatDoor
