/- Stretches of the program's run, looked at by the kernel. -/
import Derived.Test.YtcolbcpeialmhaaGreatDoorXS10a
namespace Go.Proofs.YtcolbcpeialmhaaGreatDoor
open Go.Ab
noncomputable section
set_option maxRecDepth 1000000
def CR : List (List Row) := [Et]
def uv (Y : Ys) (Z : Zs) (s : Int) : LkR := stB mv3 bB al n25 cI 12 (aL 12) bf ou CR Y Z s
theorem Ti (Y : Ys) (Z : Zs) (s : Int) : (uv Y Z s, aJ (aC ov) (hdD CR)) = ((true, (uv Y Z s).2.1, (uv Y Z s).2.1), ov) := by kernel_rfl
end
noncomputable section
set_option maxRecDepth 1000000
def CQ : List (List Row) := [Es]
def uu (Y : Ys) (Z : Zs) (s : Int) : LkR := stB mv3 bB al n25 cI 12 (aL 12) bf k6 CQ Y Z s
theorem Th (Y : Ys) (Z : Zs) (s : Int) : (uu Y Z s, aJ (aC ou) (hdD CQ)) = ((true, (uu Y Z s).2.1, (uu Y Z s).2.1), ou) := by kernel_rfl
end
noncomputable section
set_option maxRecDepth 1000000
def tU : List (List Row) := [Er]
def mu (Y : Ys) (Z : Zs) (s : Int) : LkR := stB mv3 bB al n25 cI 12 (aL 12) bf k5 tU Y Z s
theorem Mj (Y : Ys) (Z : Zs) (s : Int) : (mu Y Z s, aJ (aC k6) (hdD tU)) = ((true, (mu Y Z s).2.1, (mu Y Z s).2.1), k6) := by kernel_rfl
end
noncomputable section
set_option maxRecDepth 1000000
def tT : List (List Row) := [Ep]
def mr (Y : Ys) (Z : Zs) (s : Int) : LkR := stB mv3 bB al n25 cI 12 (aL 12) bf k4 tT Y Z s
theorem Mi (Y : Ys) (Z : Zs) (s : Int) : (mr Y Z s, aJ (aC k5) (hdD tT)) = ((true, (mr Y Z s).2.1, (mr Y Z s).2.1), k5) := by kernel_rfl
end
end Go.Proofs.YtcolbcpeialmhaaGreatDoor
