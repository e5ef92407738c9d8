/- What a call of each comes to. -/
import Derived.Test.YtcolbcpeialmhaaGreatDoorVE
import Derived.Test.YtcolbcpeialmhaaGreatDoorA2
import Derived.KernelRfl
namespace Go.Proofs.YtcolbcpeialmhaaGreatDoor
open Go.Ab
set_option maxRecDepth 100000
variable (prim : di)
noncomputable abbrev VE (n : Nat) : aa := evH lG prim n
theorem U5 (hp : prim n5 = none) (n : Nat) (t0 t1 t2 : AV) (H : AHeap) : VE prim (n + 1) n5 [t0, t1, t2] H = iD (VE prim n) t0 t1 t2 H :=
 (rj (tab := lG) (s := S5) hp (lS (by kernel_rfl)) _ _).trans (by simp only [S5, w8])
theorem U11 (hp : prim n11 = none) (n : Nat) (t0 t1 t2 t3 : AV) (H : AHeap) : VE prim (n + 1) n11 [t0, t1, t2, t3] H = JD (VE prim n) t0 t1 t2 t3 H :=
 (rj (tab := lG) (s := S11) hp (lS (by kernel_rfl)) _ _).trans (by simp only [S11, HT])
theorem U14 (hp : prim n14 = none) (n : Nat) (t0 t1 t2 : AV) (H : AHeap) : VE prim (n + 1) n14 [t0, t1, t2] H = JC (VE prim n) t0 t1 t2 H :=
 (rj (tab := lG) (s := S14) hp (lS (by kernel_rfl)) _ _).trans (by simp only [S14, w8])
theorem U24 (hp : prim n24 = none) (n : Nat) (t0 t1 : AV) (H : AHeap) : VE prim (n + 1) n24 [t0, t1] H = wG (VE prim n) t0 t1 H :=
 (rj (tab := lG) (s := S24) hp (lS (by kernel_rfl)) _ _).trans (by simp only [S24, HU])
theorem Rk (call : aa) (n : Nat) (t1 t2 t3 t8 t10 t12 t13 : AV) (H : AHeap) : wI call (n + 1) t1 t2 t3 t8 t10 t12 t13 H = aE t13 t3 H fun t27 H =>
 ab t27 (kC (.int .u32 (.ofNat 1664525)) t2 H fun t31 H =>
 ay t31 (.int .u32 (.ofNat 1013904223)) H fun t32 H =>
 pO (aW .shr t32 (.int .u64 (.ofNat 8))) H fun t35 H =>
 aU .i64 t35 H fun t36 H =>
 pN (aM 1 1 [(.int .i64 (.ofNat 0))] [(0, 1, t36)]) H fun t37 H =>
 pW (bz 1 8 H t12 t37) fun t38 H =>
 ay t13 (.int .i64 (.ofNat 1)) H fun t29 H =>
 (wI call n) t1 t32 t3 t8 t10 t38 t29 H) (wJ call t1 t8 t10 t12 H) := by kernel_rfl
theorem Rj (call : aa) (n : Nat) (t6 t8 t10 t23 t24 t25 : AV) (H : AHeap) : wH call (n + 1) t6 t8 t10 t23 t24 t25 H = aE t25 t24 H fun t26 H =>
 ab t26 (pIa 1 t23 t25 H fun t27 H =>
 ldK .none H t27 fun t28 H =>
 pC call n24 [t8, t28] H fun t31 H =>
 pO (aUn .not t31) H fun t32 H =>
 ab t32 (pf call t6 t8 t10 H) (ay t10 (.int .i64 (.ofNat 1)) H fun t34 H =>
 ay t25 (.int .i64 (.ofNat 1)) H fun t35 H =>
 (wH call n) t6 t8 t34 t23 t24 t35 H)) (pf call t6 t8 t10 H) := by kernel_rfl
end Go.Proofs.YtcolbcpeialmhaaGreatDoor
