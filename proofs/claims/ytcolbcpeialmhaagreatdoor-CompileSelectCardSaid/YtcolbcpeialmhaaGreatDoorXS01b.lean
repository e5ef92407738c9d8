/- The program compiled, its machine made: looked at by the kernel. -/
import Derived.Test.YtcolbcpeialmhaaGreatDoorXS01a
namespace Go.Proofs.YtcolbcpeialmhaaGreatDoor
open Go.Ab
noncomputable section
set_option maxRecDepth 1000000
theorem a8e : cg (al n12 [.str tS01.T] (hP [])) (hP []) tS01.r0 tS01.mods tS01.ms = (true, (cg (al n12 [.str tS01.T] (hP [])) (hP []) tS01.r0 tS01.mods tS01.ms).2.1, (cg (al n12 [.str tS01.T] (hP [])) (hP []) tS01.r0 tS01.mods tS01.ms).2.1) := by kernel_rfl
theorem a6P : cg (al n23 [.agg tS01.mc, I 8] (hP tS01.mods)) (hP tS01.mods) (.tup [.ptr 4 0, I 0]) (tS01.T0.v :: (tS01.st ++ tS01.T0.r)) tS01.ns = (true, (cg (al n23 [.agg tS01.mc, I 8] (hP tS01.mods)) (hP tS01.mods) (.tup [.ptr 4 0, I 0]) (tS01.T0.v :: (tS01.st ++ tS01.T0.r)) tS01.ns).2.1, (cg (al n23 [.agg tS01.mc, I 8] (hP tS01.mods)) (hP tS01.mods) (.tup [.ptr 4 0, I 0]) (tS01.T0.v :: (tS01.st ++ tS01.T0.r)) tS01.ns).2.1) := by kernel_rfl
theorem a87 : aq (hgP tS01.mods [.agg tS01.mc, I 8] (Nat.add 4 (aC tS01.mods)) [4, 5, 6, 7, 7, 7, 7] 4) (aq (c7 tS01.mods) (aq (Nat.beq (aC tS01.mc) 6) (aq (aI tS01.mc) (aq (Fb (Nat.add 4 (aC tS01.mods)) tS01.mc) (aq (okR (Nat.add 5 (aC tS01.st)) tS01.st) (c7 tS01.st)))))) = true := by kernel_rfl
end
end Go.Proofs.YtcolbcpeialmhaaGreatDoor
