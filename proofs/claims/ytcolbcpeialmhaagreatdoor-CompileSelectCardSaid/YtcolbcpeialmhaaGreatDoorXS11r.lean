/- Stretches of the program's run, looked at by the kernel. -/
import Derived.Test.YtcolbcpeialmhaaGreatDoorXS11a
namespace Go.Proofs.YtcolbcpeialmhaaGreatDoor
open Go.Ab
noncomputable section
set_option maxRecDepth 1000000
def CG : List (List Row) := [Ej]
def ug (Y : Ys) (Z : Zs) (s : Int) : LkR := stB mv3 bp al n25 cC 12 (aL 12) bb oa CG Y Z s
theorem T7 (Y : Ys) (Z : Zs) (s : Int) : (ug Y Z s, aJ (aC od) (hdD CG)) = ((true, (ug Y Z s).2.1, (ug Y Z s).2.1), od) := by kernel_rfl
end
noncomputable section
set_option maxRecDepth 1000000
def CF : List (List Row) := [Ei]
def uf (Y : Ys) (Z : Zs) (s : Int) : LkR := stB mv3 bp al n25 cC 12 (aL 12) bb jX CF Y Z s
theorem T6 (Y : Ys) (Z : Zs) (s : Int) : (uf Y Z s, aJ (aC oa) (hdD CF)) = ((true, (uf Y Z s).2.1, (uf Y Z s).2.1), oa) := by kernel_rfl
end
noncomputable section
set_option maxRecDepth 1000000
def tP : List (List Row) := [Eh]
def ml (Y : Ys) (Z : Zs) (s : Int) : LkR := stB mv3 bp al n25 cC 12 (aL 12) bb jW tP Y Z s
theorem Me (Y : Ys) (Z : Zs) (s : Int) : (ml Y Z s, aJ (aC jX) (hdD tP)) = ((true, (ml Y Z s).2.1, (ml Y Z s).2.1), jX) := by kernel_rfl
end
noncomputable section
set_option maxRecDepth 1000000
def tO : List (List Row) := [Eg]
def mj (Y : Ys) (Z : Zs) (s : Int) : LkR := stB mv3 bp al n25 cC 12 (aL 12) bb jV tO Y Z s
theorem Md (Y : Ys) (Z : Zs) (s : Int) : (mj Y Z s, aJ (aC jW) (hdD tO)) = ((true, (mj Y Z s).2.1, (mj Y Z s).2.1), jW) := by kernel_rfl
end
end Go.Proofs.YtcolbcpeialmhaaGreatDoor
