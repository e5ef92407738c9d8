/- The program compiled, its machine made: looked at by the kernel. -/
import Derived.Test.YtcolbcpeialmhaaGreatDoorXO11a
namespace Go.Proofs.YtcolbcpeialmhaaGreatDoor
open Go.Ab
noncomputable section
set_option maxRecDepth 1000000
theorem cO11 : oneB (call3 n12 [.str tO11.T] (hP [])) (hP []) tO11.r0 tO11.mods tO11.ms = (true, (oneB (call3 n12 [.str tO11.T] (hP [])) (hP []) tO11.r0 tO11.mods tO11.ms).2.1, (oneB (call3 n12 [.str tO11.T] (hP [])) (hP []) tO11.r0 tO11.mods tO11.ms).2.1) := by kernel_rfl
theorem nO11 : oneB (call3 n23 [.agg tO11.mc, I 8] (hP tO11.mods)) (hP tO11.mods) (.tup [.ptr 4 0, I 0]) (tO11.T0.v :: (tO11.st ++ tO11.T0.r)) tO11.ns = (true, (oneB (call3 n23 [.agg tO11.mc, I 8] (hP tO11.mods)) (hP tO11.mods) (.tup [.ptr 4 0, I 0]) (tO11.T0.v :: (tO11.st ++ tO11.T0.r)) tO11.ns).2.1, (oneB (call3 n23 [.agg tO11.mc, I 8] (hP tO11.mods)) (hP tO11.mods) (.tup [.ptr 4 0, I 0]) (tO11.T0.v :: (tO11.st ++ tO11.T0.r)) tO11.ns).2.1) := by kernel_rfl
theorem hO11 : and2 (hgP tO11.mods [.agg tO11.mc, I 8] (Nat.add 4 (lenL tO11.mods)) [4, 5, 6, 6, 6, 6, 6, 6, 6, 6, 6, 6, 6, 6, 6] 4) (and2 (shutR tO11.mods) (and2 (Nat.beq (lenL tO11.mc) 6) (and2 (allScal tO11.mc) (and2 (inVb (Nat.add 4 (lenL tO11.mods)) tO11.mc) (and2 (okR (Nat.add 5 (lenL tO11.st)) tO11.st) (shutR tO11.st)))))) = true := by kernel_rfl
end
end Go.Proofs.YtcolbcpeialmhaaGreatDoor
