/- Stretches of the program's run, looked at by the kernel. -/
import Derived.Test.YtcolbcpeialmhaaGreatDoorXS11a
namespace Go.Proofs.YtcolbcpeialmhaaGreatDoor
open Go.Ab
noncomputable section
set_option maxRecDepth 1000000
def CL : List (List Row) := [JG]
def uk (Y : Ys) (Z : Zs) (s : Int) : LkR := stB mv3 bp al n25 cC 12 (aL 12) bb oh CL Y Z s
theorem Tc (Y : Ys) (Z : Zs) (s : Int) : (uk Y Z s, aJ (aC oi) (hdD CL)) = ((true, (uk Y Z s).2.1, (uk Y Z s).2.1), oi) := by kernel_rfl
end
noncomputable section
set_option maxRecDepth 1000000
def CK : List (List Row) := [JF]
def uj (Y : Ys) (Z : Zs) (s : Int) : LkR := stB mv3 bp al n25 cC 12 (aL 12) bb og CK Y Z s
theorem Ta (Y : Ys) (Z : Zs) (s : Int) : (uj Y Z s, aJ (aC oh) (hdD CK)) = ((true, (uj Y Z s).2.1, (uj Y Z s).2.1), oh) := by kernel_rfl
end
noncomputable section
set_option maxRecDepth 1000000
def CJ : List (List Row) := [JE]
def ui (Y : Ys) (Z : Zs) (s : Int) : LkR := stB mv3 bp al n25 cC 12 (aL 12) bb oe CJ Y Z s
theorem T9 (Y : Ys) (Z : Zs) (s : Int) : (ui Y Z s, aJ (aC og) (hdD CJ)) = ((true, (ui Y Z s).2.1, (ui Y Z s).2.1), og) := by kernel_rfl
end
noncomputable section
set_option maxRecDepth 1000000
def CI : List (List Row) := [Ek]
def uh (Y : Ys) (Z : Zs) (s : Int) : LkR := stB mv3 bp al n25 cC 12 (aL 12) bb od CI Y Z s
theorem T8 (Y : Ys) (Z : Zs) (s : Int) : (uh Y Z s, aJ (aC oe) (hdD CI)) = ((true, (uh Y Z s).2.1, (uh Y Z s).2.1), oe) := by kernel_rfl
end
end Go.Proofs.YtcolbcpeialmhaaGreatDoor
