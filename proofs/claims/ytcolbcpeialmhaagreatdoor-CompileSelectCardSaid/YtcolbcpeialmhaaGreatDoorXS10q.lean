/- Stretches of the program's run, looked at by the kernel. -/
import Derived.Test.YtcolbcpeialmhaaGreatDoorXS10a
namespace Go.Proofs.YtcolbcpeialmhaaGreatDoor
open Go.Ab
noncomputable section
set_option maxRecDepth 1000000
def CV : List (List Row) := [JN]
def uz (Y : Ys) (Z : Zs) (s : Int) : LkR := stB mv3 bB al n25 cI 12 (aL 12) bf oy CV Y Z s
theorem Tm (Y : Ys) (Z : Zs) (s : Int) : (uz Y Z s, aJ (aC oz) (hdD CV)) = ((true, (uz Y Z s).2.1, (uz Y Z s).2.1), oz) := by kernel_rfl
end
noncomputable section
set_option maxRecDepth 1000000
def CU : List (List Row) := [JM]
def uy (Y : Ys) (Z : Zs) (s : Int) : LkR := stB mv3 bB al n25 cI 12 (aL 12) bf ox CU Y Z s
theorem Tl (Y : Ys) (Z : Zs) (s : Int) : (uy Y Z s, aJ (aC oy) (hdD CU)) = ((true, (uy Y Z s).2.1, (uy Y Z s).2.1), oy) := by kernel_rfl
end
noncomputable section
set_option maxRecDepth 1000000
def CT : List (List Row) := [JL]
def ux (Y : Ys) (Z : Zs) (s : Int) : LkR := stB mv3 bB al n25 cI 12 (aL 12) bf ow CT Y Z s
theorem Tk (Y : Ys) (Z : Zs) (s : Int) : (ux Y Z s, aJ (aC ox) (hdD CT)) = ((true, (ux Y Z s).2.1, (ux Y Z s).2.1), ox) := by kernel_rfl
end
noncomputable section
set_option maxRecDepth 1000000
def CS : List (List Row) := [Eu]
def uw (Y : Ys) (Z : Zs) (s : Int) : LkR := stB mv3 bB al n25 cI 12 (aL 12) bf ov CS Y Z s
theorem Tj (Y : Ys) (Z : Zs) (s : Int) : (uw Y Z s, aJ (aC ow) (hdD CS)) = ((true, (uw Y Z s).2.1, (uw Y Z s).2.1), ow) := by kernel_rfl
end
end Go.Proofs.YtcolbcpeialmhaaGreatDoor
