/- Stretches of the program's run, looked at by the kernel. -/
import Derived.Test.YtcolbcpeialmhaaGreatDoorXS11a
namespace Go.Proofs.YtcolbcpeialmhaaGreatDoor
open Go.Ab
noncomputable section
set_option maxRecDepth 1000000
def CP : List (List Row) := [JK, Yw, Yv, Yu]
def ur (Y : Ys) (Z : Zs) (s : Int) : LkR := stB mv3 bp al n25 cC 12 (aL 12) bb oq CP Y Z s
theorem Tg (Y : Ys) (Z : Zs) (s : Int) : (ur Y Z s, aJ (aC ot) (hdD CP)) = ((true, (ur Y Z s).2.1, (ur Y Z s).2.1), ot) := by kernel_rfl
end
noncomputable section
set_option maxRecDepth 1000000
def CO : List (List Row) := [JJ]
def uq (Y : Ys) (Z : Zs) (s : Int) : LkR := stB mv3 bp al n25 cC 12 (aL 12) bb oo CO Y Z s
theorem Tf (Y : Ys) (Z : Zs) (s : Int) : (uq Y Z s, aJ (aC oq) (hdD CO)) = ((true, (uq Y Z s).2.1, (uq Y Z s).2.1), oq) := by kernel_rfl
end
noncomputable section
set_option maxRecDepth 1000000
def CN : List (List Row) := [JI]
def uo (Y : Ys) (Z : Zs) (s : Int) : LkR := stB mv3 bp al n25 cC 12 (aL 12) bb oj CN Y Z s
theorem Te (Y : Ys) (Z : Zs) (s : Int) : (uo Y Z s, aJ (aC oo) (hdD CN)) = ((true, (uo Y Z s).2.1, (uo Y Z s).2.1), oo) := by kernel_rfl
end
noncomputable section
set_option maxRecDepth 1000000
def CM : List (List Row) := [JH]
def um (Y : Ys) (Z : Zs) (s : Int) : LkR := stB mv3 bp al n25 cC 12 (aL 12) bb oi CM Y Z s
theorem Td (Y : Ys) (Z : Zs) (s : Int) : (um Y Z s, aJ (aC oj) (hdD CM)) = ((true, (um Y Z s).2.1, (um Y Z s).2.1), oj) := by kernel_rfl
end
end Go.Proofs.YtcolbcpeialmhaaGreatDoor
