/- The program compiled, its machine made: looked at by the kernel. -/
import Derived.Test.YtcolbcpeialmhaaGreatDoorXO10a
namespace Go.Proofs.YtcolbcpeialmhaaGreatDoor
open Go.Ab
noncomputable section
set_option maxRecDepth 1000000
theorem cO10 : oneB (call3 n12 [.str tO10.T] (hP [])) (hP []) tO10.r0 tO10.mods tO10.ms = (true, (oneB (call3 n12 [.str tO10.T] (hP [])) (hP []) tO10.r0 tO10.mods tO10.ms).2.1, (oneB (call3 n12 [.str tO10.T] (hP [])) (hP []) tO10.r0 tO10.mods tO10.ms).2.1) := by kernel_rfl
theorem nO10 : oneB (call3 n23 [.agg tO10.mc, I 8] (hP tO10.mods)) (hP tO10.mods) (.tup [.ptr 4 0, I 0]) (tO10.T0.v :: (tO10.st ++ tO10.T0.r)) tO10.ns = (true, (oneB (call3 n23 [.agg tO10.mc, I 8] (hP tO10.mods)) (hP tO10.mods) (.tup [.ptr 4 0, I 0]) (tO10.T0.v :: (tO10.st ++ tO10.T0.r)) tO10.ns).2.1, (oneB (call3 n23 [.agg tO10.mc, I 8] (hP tO10.mods)) (hP tO10.mods) (.tup [.ptr 4 0, I 0]) (tO10.T0.v :: (tO10.st ++ tO10.T0.r)) tO10.ns).2.1) := by kernel_rfl
theorem hO10 : and2 (hgP tO10.mods [.agg tO10.mc, I 8] (Nat.add 4 (lenL tO10.mods)) [4, 5, 6, 6, 6, 6, 6, 6, 6, 6, 6, 6, 6, 6, 6] 4) (and2 (shutR tO10.mods) (and2 (Nat.beq (lenL tO10.mc) 6) (and2 (allScal tO10.mc) (and2 (inVb (Nat.add 4 (lenL tO10.mods)) tO10.mc) (and2 (okR (Nat.add 5 (lenL tO10.st)) tO10.st) (shutR tO10.st)))))) = true := by kernel_rfl
end
end Go.Proofs.YtcolbcpeialmhaaGreatDoor
