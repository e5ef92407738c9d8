/- Stretches of the program's run, looked at by the kernel. -/
import Derived.Test.YtcolbcpeialmhaaGreatDoorXS00a
namespace Go.Proofs.YtcolbcpeialmhaaGreatDoor
open Go.Ab
noncomputable section
set_option maxRecDepth 1000000
def Db : List (List Row) := [EI]
def uP (Y : Ys) (Z : Zs) (s : Int) : LkR := stB mv3 bK al n25 dp 12 (aL 12) bo oN Db Y Z s
theorem TF (Y : Ys) (Z : Zs) (s : Int) : (uP Y Z s, aJ (aC oO) (hdD Db)) = ((true, (uP Y Z s).2.1, (uP Y Z s).2.1), oO) := by kernel_rfl
end
noncomputable section
set_option maxRecDepth 1000000
def Da : List (List Row) := [EH]
def uO (Y : Ys) (Z : Zs) (s : Int) : LkR := stB mv3 bK al n25 dp 12 (aL 12) bo km Da Y Z s
theorem TE (Y : Ys) (Z : Zs) (s : Int) : (uO Y Z s, aJ (aC oN) (hdD Da)) = ((true, (uO Y Z s).2.1, (uO Y Z s).2.1), oN) := by kernel_rfl
end
noncomputable section
set_option maxRecDepth 1000000
def uc : List (List Row) := [EG]
def mF (Y : Ys) (Z : Zs) (s : Int) : LkR := stB mv3 bK al n25 dp 12 (aL 12) bo kj uc Y Z s
theorem Mt (Y : Ys) (Z : Zs) (s : Int) : (mF Y Z s, aJ (aC km) (hdD uc)) = ((true, (mF Y Z s).2.1, (mF Y Z s).2.1), km) := by kernel_rfl
end
noncomputable section
set_option maxRecDepth 1000000
def ub : List (List Row) := [EF]
def mE (Y : Ys) (Z : Zs) (s : Int) : LkR := stB mv3 bK al n25 dp 12 (aL 12) bo ki ub Y Z s
theorem Ms (Y : Ys) (Z : Zs) (s : Int) : (mE Y Z s, aJ (aC kj) (hdD ub)) = ((true, (mE Y Z s).2.1, (mE Y Z s).2.1), kj) := by kernel_rfl
end
end Go.Proofs.YtcolbcpeialmhaaGreatDoor
