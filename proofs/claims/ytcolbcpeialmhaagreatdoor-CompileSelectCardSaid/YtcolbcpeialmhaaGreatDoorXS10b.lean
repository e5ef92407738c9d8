/- The program compiled, its machine made: looked at by the kernel. -/
import Derived.Test.YtcolbcpeialmhaaGreatDoorXS10a
namespace Go.Proofs.YtcolbcpeialmhaaGreatDoor
open Go.Ab
noncomputable section
set_option maxRecDepth 1000000
theorem a8d : cg (al n12 [.str tS10.T] (hP [])) (hP []) tS10.r0 tS10.mods tS10.ms = (true, (cg (al n12 [.str tS10.T] (hP [])) (hP []) tS10.r0 tS10.mods tS10.ms).2.1, (cg (al n12 [.str tS10.T] (hP [])) (hP []) tS10.r0 tS10.mods tS10.ms).2.1) := by kernel_rfl
theorem a6O : cg (al n23 [.agg tS10.mc, I 8] (hP tS10.mods)) (hP tS10.mods) (.tup [.ptr 4 0, I 0]) (tS10.T0.v :: (tS10.st ++ tS10.T0.r)) tS10.ns = (true, (cg (al n23 [.agg tS10.mc, I 8] (hP tS10.mods)) (hP tS10.mods) (.tup [.ptr 4 0, I 0]) (tS10.T0.v :: (tS10.st ++ tS10.T0.r)) tS10.ns).2.1, (cg (al n23 [.agg tS10.mc, I 8] (hP tS10.mods)) (hP tS10.mods) (.tup [.ptr 4 0, I 0]) (tS10.T0.v :: (tS10.st ++ tS10.T0.r)) tS10.ns).2.1) := by kernel_rfl
theorem a86 : aq (hgP tS10.mods [.agg tS10.mc, I 8] (Nat.add 4 (aC tS10.mods)) [4, 5, 6, 7, 7, 7, 7] 4) (aq (c7 tS10.mods) (aq (Nat.beq (aC tS10.mc) 6) (aq (aI tS10.mc) (aq (Fb (Nat.add 4 (aC tS10.mods)) tS10.mc) (aq (okR (Nat.add 5 (aC tS10.st)) tS10.st) (c7 tS10.st)))))) = true := by kernel_rfl
end
end Go.Proofs.YtcolbcpeialmhaaGreatDoor
