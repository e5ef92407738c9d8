/- The program compiled, its machine made: looked at by the kernel. -/
import Derived.Test.YtcolbcpeialmhaaGreatDoorXS11a
namespace Go.Proofs.YtcolbcpeialmhaaGreatDoor
open Go.Ab
noncomputable section
set_option maxRecDepth 1000000
theorem a8c : cg (al n12 [.str tS11.T] (hP [])) (hP []) tS11.r0 tS11.mods tS11.ms = (true, (cg (al n12 [.str tS11.T] (hP [])) (hP []) tS11.r0 tS11.mods tS11.ms).2.1, (cg (al n12 [.str tS11.T] (hP [])) (hP []) tS11.r0 tS11.mods tS11.ms).2.1) := by kernel_rfl
theorem a6N : cg (al n23 [.agg tS11.mc, I 8] (hP tS11.mods)) (hP tS11.mods) (.tup [.ptr 4 0, I 0]) (tS11.T0.v :: (tS11.st ++ tS11.T0.r)) tS11.ns = (true, (cg (al n23 [.agg tS11.mc, I 8] (hP tS11.mods)) (hP tS11.mods) (.tup [.ptr 4 0, I 0]) (tS11.T0.v :: (tS11.st ++ tS11.T0.r)) tS11.ns).2.1, (cg (al n23 [.agg tS11.mc, I 8] (hP tS11.mods)) (hP tS11.mods) (.tup [.ptr 4 0, I 0]) (tS11.T0.v :: (tS11.st ++ tS11.T0.r)) tS11.ns).2.1) := by kernel_rfl
theorem a85 : aq (hgP tS11.mods [.agg tS11.mc, I 8] (Nat.add 4 (aC tS11.mods)) [4, 5, 6, 7, 7, 7, 7] 4) (aq (c7 tS11.mods) (aq (Nat.beq (aC tS11.mc) 6) (aq (aI tS11.mc) (aq (Fb (Nat.add 4 (aC tS11.mods)) tS11.mc) (aq (okR (Nat.add 5 (aC tS11.st)) tS11.st) (c7 tS11.st)))))) = true := by kernel_rfl
end
end Go.Proofs.YtcolbcpeialmhaaGreatDoor
