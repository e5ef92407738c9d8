/- The program compiled, its machine made: looked at by the kernel. -/
import Derived.Test.YtcolbcpeialmhaaGreatDoorXS00a
namespace Go.Proofs.YtcolbcpeialmhaaGreatDoor
open Go.Ab
noncomputable section
set_option maxRecDepth 1000000
theorem a8f : cg (al n12 [.str tS00.T] (hP [])) (hP []) tS00.r0 tS00.mods tS00.ms = (true, (cg (al n12 [.str tS00.T] (hP [])) (hP []) tS00.r0 tS00.mods tS00.ms).2.1, (cg (al n12 [.str tS00.T] (hP [])) (hP []) tS00.r0 tS00.mods tS00.ms).2.1) := by kernel_rfl
theorem a6Q : cg (al n23 [.agg tS00.mc, I 8] (hP tS00.mods)) (hP tS00.mods) (.tup [.ptr 4 0, I 0]) (tS00.T0.v :: (tS00.st ++ tS00.T0.r)) tS00.ns = (true, (cg (al n23 [.agg tS00.mc, I 8] (hP tS00.mods)) (hP tS00.mods) (.tup [.ptr 4 0, I 0]) (tS00.T0.v :: (tS00.st ++ tS00.T0.r)) tS00.ns).2.1, (cg (al n23 [.agg tS00.mc, I 8] (hP tS00.mods)) (hP tS00.mods) (.tup [.ptr 4 0, I 0]) (tS00.T0.v :: (tS00.st ++ tS00.T0.r)) tS00.ns).2.1) := by kernel_rfl
theorem a88 : aq (hgP tS00.mods [.agg tS00.mc, I 8] (Nat.add 4 (aC tS00.mods)) [4, 5, 6, 7, 7, 7, 7] 4) (aq (c7 tS00.mods) (aq (Nat.beq (aC tS00.mc) 6) (aq (aI tS00.mc) (aq (Fb (Nat.add 4 (aC tS00.mods)) tS00.mc) (aq (okR (Nat.add 5 (aC tS00.st)) tS00.st) (c7 tS00.st)))))) = true := by kernel_rfl
end
end Go.Proofs.YtcolbcpeialmhaaGreatDoor
