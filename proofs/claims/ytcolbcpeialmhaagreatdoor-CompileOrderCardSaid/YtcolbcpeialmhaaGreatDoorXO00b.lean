/- The program compiled, its machine made: looked at by the kernel. -/
import Derived.Test.YtcolbcpeialmhaaGreatDoorXO00a
namespace Go.Proofs.YtcolbcpeialmhaaGreatDoor
open Go.Ab
noncomputable section
set_option maxRecDepth 1000000
theorem cO00 : oneB (call3 n12 [.str tO00.T] (hP [])) (hP []) tO00.r0 tO00.mods tO00.ms = (true, (oneB (call3 n12 [.str tO00.T] (hP [])) (hP []) tO00.r0 tO00.mods tO00.ms).2.1, (oneB (call3 n12 [.str tO00.T] (hP [])) (hP []) tO00.r0 tO00.mods tO00.ms).2.1) := by kernel_rfl
theorem nO00 : oneB (call3 n23 [.agg tO00.mc, I 8] (hP tO00.mods)) (hP tO00.mods) (.tup [.ptr 4 0, I 0]) (tO00.T0.v :: (tO00.st ++ tO00.T0.r)) tO00.ns = (true, (oneB (call3 n23 [.agg tO00.mc, I 8] (hP tO00.mods)) (hP tO00.mods) (.tup [.ptr 4 0, I 0]) (tO00.T0.v :: (tO00.st ++ tO00.T0.r)) tO00.ns).2.1, (oneB (call3 n23 [.agg tO00.mc, I 8] (hP tO00.mods)) (hP tO00.mods) (.tup [.ptr 4 0, I 0]) (tO00.T0.v :: (tO00.st ++ tO00.T0.r)) tO00.ns).2.1) := by kernel_rfl
theorem hO00 : and2 (hgP tO00.mods [.agg tO00.mc, I 8] (Nat.add 4 (lenL tO00.mods)) [4, 5, 6, 6, 6, 6, 6, 6, 6, 6, 6, 6, 6, 6, 6] 4) (and2 (shutR tO00.mods) (and2 (Nat.beq (lenL tO00.mc) 6) (and2 (allScal tO00.mc) (and2 (inVb (Nat.add 4 (lenL tO00.mods)) tO00.mc) (and2 (okR (Nat.add 5 (lenL tO00.st)) tO00.st) (shutR tO00.st)))))) = true := by kernel_rfl
end
end Go.Proofs.YtcolbcpeialmhaaGreatDoor
