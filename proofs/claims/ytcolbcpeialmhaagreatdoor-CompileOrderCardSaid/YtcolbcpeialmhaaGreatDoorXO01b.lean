/- The program compiled, its machine made: looked at by the kernel. -/
import Derived.Test.YtcolbcpeialmhaaGreatDoorXO01a
namespace Go.Proofs.YtcolbcpeialmhaaGreatDoor
open Go.Ab
noncomputable section
set_option maxRecDepth 1000000
theorem cO01 : oneB (call3 n12 [.str tO01.T] (hP [])) (hP []) tO01.r0 tO01.mods tO01.ms = (true, (oneB (call3 n12 [.str tO01.T] (hP [])) (hP []) tO01.r0 tO01.mods tO01.ms).2.1, (oneB (call3 n12 [.str tO01.T] (hP [])) (hP []) tO01.r0 tO01.mods tO01.ms).2.1) := by kernel_rfl
theorem nO01 : oneB (call3 n23 [.agg tO01.mc, I 8] (hP tO01.mods)) (hP tO01.mods) (.tup [.ptr 4 0, I 0]) (tO01.T0.v :: (tO01.st ++ tO01.T0.r)) tO01.ns = (true, (oneB (call3 n23 [.agg tO01.mc, I 8] (hP tO01.mods)) (hP tO01.mods) (.tup [.ptr 4 0, I 0]) (tO01.T0.v :: (tO01.st ++ tO01.T0.r)) tO01.ns).2.1, (oneB (call3 n23 [.agg tO01.mc, I 8] (hP tO01.mods)) (hP tO01.mods) (.tup [.ptr 4 0, I 0]) (tO01.T0.v :: (tO01.st ++ tO01.T0.r)) tO01.ns).2.1) := by kernel_rfl
theorem hO01 : and2 (hgP tO01.mods [.agg tO01.mc, I 8] (Nat.add 4 (lenL tO01.mods)) [4, 5, 6, 6, 6, 6, 6, 6, 6, 6, 6, 6, 6, 6, 6] 4) (and2 (shutR tO01.mods) (and2 (Nat.beq (lenL tO01.mc) 6) (and2 (allScal tO01.mc) (and2 (inVb (Nat.add 4 (lenL tO01.mods)) tO01.mc) (and2 (okR (Nat.add 5 (lenL tO01.st)) tO01.st) (shutR tO01.st)))))) = true := by kernel_rfl
end
end Go.Proofs.YtcolbcpeialmhaaGreatDoor
