/- Stretches of the program's run, looked at by the kernel. -/
import Derived.Test.YtcolbcpeialmhaaGreatDoorXS11a
namespace Go.Proofs.YtcolbcpeialmhaaGreatDoor
open Go.Ab
noncomputable section
set_option maxRecDepth 1000000
def tN : List (List Row) := [Ef]
def mi (Y : Ys) (Z : Zs) (s : Int) : LkR := stB mv3 bp al n25 cC 12 (aL 12) bb jU tN Y Z s
theorem Mc (Y : Ys) (Z : Zs) (s : Int) : (mi Y Z s, aJ (aC jV) (hdD tN)) = ((true, (mi Y Z s).2.1, (mi Y Z s).2.1), jV) := by kernel_rfl
end
noncomputable section
set_option maxRecDepth 1000000
def tM : List (List Row) := [Ee]
def mh (Y : Ys) (Z : Zs) (s : Int) : LkR := stB mv3 bp al n25 cC 12 (aL 12) bb jT tM Y Z s
theorem Mb (Y : Ys) (Z : Zs) (s : Int) : (mh Y Z s, aJ (aC jU) (hdD tM)) = ((true, (mh Y Z s).2.1, (mh Y Z s).2.1), jU) := by kernel_rfl
end
noncomputable section
set_option maxRecDepth 1000000
def tL : List (List Row) := [Ed]
def mg (Y : Ys) (Z : Zs) (s : Int) : LkR := stB mv3 bp al n25 cC 12 (aL 12) bb jS tL Y Z s
theorem Ma (Y : Ys) (Z : Zs) (s : Int) : (mg Y Z s, aJ (aC jT) (hdD tL)) = ((true, (mg Y Z s).2.1, (mg Y Z s).2.1), jT) := by kernel_rfl
end
noncomputable section
set_option maxRecDepth 1000000
def tK : List (List Row) := [Ec]
def me (Y : Ys) (Z : Zs) (s : Int) : LkR := stB mv3 bp al n25 cC 12 (aL 12) bb [] tK Y Z s
theorem M9 (Y : Ys) (Z : Zs) (s : Int) : (me Y Z s, aJ (aC jS) (hdD tK)) = ((true, (me Y Z s).2.1, (me Y Z s).2.1), jS) := by kernel_rfl
end
end Go.Proofs.YtcolbcpeialmhaaGreatDoor
