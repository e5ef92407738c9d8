/- What a call of each comes to. -/
import Derived.Test.YtcolbcpeialmhaaGreatDoorVE
import Derived.Test.YtcolbcpeialmhaaGreatDoorA2
import Derived.KernelRfl
namespace Go.Proofs.YtcolbcpeialmhaaGreatDoor
open Go.Ab
set_option maxRecDepth 100000
variable (prim : Prims)
noncomputable abbrev VE (n : Nat) : CallFn := evH V_tab prim n
theorem U3 (hp : prim n3 = none) (n : Nat) (t0 t1 t2 : AV) (H : AHeap) : VE prim (n + 1) n3 [t0, t1, t2] H = S3_0 (VE prim n) t0 t1 t2 H :=
 (evH_at (tab := V_tab) (s := S3) hp (tabX_at (by kernel_rfl)) _ _).trans (by simp only [S3, argA3_at])
theorem U7 (hp : prim n7 = none) (n : Nat) (t0 t1 t2 t3 t4 t5 t6 : AV) (H : AHeap) : VE prim (n + 1) n7 [t0, t1, t2, t3, t4, t5, t6] H = S7_2 (VE prim n) t0 t1 t2 t3 t4 t5 t6 H :=
 (evH_at (tab := V_tab) (s := S7) hp (tabX_at (by kernel_rfl)) _ _).trans (by simp only [S7, argA7_at])
theorem U11 (hp : prim n11 = none) (n : Nat) (t0 t1 t2 t3 : AV) (H : AHeap) : VE prim (n + 1) n11 [t0, t1, t2, t3] H = S11_2 (VE prim n) t0 t1 t2 t3 H :=
 (evH_at (tab := V_tab) (s := S11) hp (tabX_at (by kernel_rfl)) _ _).trans (by simp only [S11, argA4_at])
theorem U14 (hp : prim n14 = none) (n : Nat) (t0 t1 t2 : AV) (H : AHeap) : VE prim (n + 1) n14 [t0, t1, t2] H = S14_2 (VE prim n) t0 t1 t2 H :=
 (evH_at (tab := V_tab) (s := S14) hp (tabX_at (by kernel_rfl)) _ _).trans (by simp only [S14, argA3_at])
theorem U16 (hp : prim n16 = none) (n : Nat) (t0 t1 : AV) (H : AHeap) : VE prim (n + 1) n16 [t0, t1] H = S16_1 (VE prim n) t0 t1 H :=
 (evH_at (tab := V_tab) (s := S16) hp (tabX_at (by kernel_rfl)) _ _).trans (by simp only [S16, argA2_at])
theorem U17 (hp : prim n17 = none) (n : Nat) (t0 t1 : AV) (H : AHeap) : VE prim (n + 1) n17 [t0, t1] H = S17_1 (VE prim n) t0 t1 H :=
 (evH_at (tab := V_tab) (s := S17) hp (tabX_at (by kernel_rfl)) _ _).trans (by simp only [S17, argA2_at])
theorem U24 (hp : prim n24 = none) (n : Nat) (t0 t1 : AV) (H : AHeap) : VE prim (n + 1) n24 [t0, t1] H = S24_1 (VE prim n) t0 t1 H :=
 (evH_at (tab := V_tab) (s := S24) hp (tabX_at (by kernel_rfl)) _ _).trans (by simp only [S24, argA2_at])
theorem L11_1 (call : CallFn) (n : Nat) (t1 t2 t3 t8 t10 t12 t13 : AV) (H : AHeap) : S11_1 call (n + 1) t1 t2 t3 t8 t10 t12 t13 H = pLss t13 t3 H fun t27 H =>
 onBool t27 (pMul (.int .u32 (.ofNat 1664525)) t2 H fun t31 H =>
 pAdd t31 (.int .u32 (.ofNat 1013904223)) H fun t32 H =>
 pO (aBin .shr t32 (.int .u64 (.ofNat 8))) H fun t35 H =>
 pConv .i64 t35 H fun t36 H =>
 pN (aBsl 1 1 [(.int .i64 (.ofNat 0))] [(0, 1, t36)]) H fun t37 H =>
 pW (aApp 1 8 H t12 t37) fun t38 H =>
 pAdd t13 (.int .i64 (.ofNat 1)) H fun t29 H =>
 (S11_1 call n) t1 t32 t3 t8 t10 t38 t29 H) (S11_0 call t1 t8 t10 t12 H) := by kernel_rfl
theorem L14_1 (call : CallFn) (n : Nat) (t6 t8 t10 t23 t24 t25 : AV) (H : AHeap) : S14_1 call (n + 1) t6 t8 t10 t23 t24 t25 H = pLss t25 t24 H fun t26 H =>
 onBool t26 (pIa 1 t23 t25 H fun t27 H =>
 ldK .none H t27 fun t28 H =>
 pC call n24 [t8, t28] H fun t31 H =>
 pO (aUn .not t31) H fun t32 H =>
 onBool t32 (S14_0 call t6 t8 t10 H) (pAdd t10 (.int .i64 (.ofNat 1)) H fun t34 H =>
 pAdd t25 (.int .i64 (.ofNat 1)) H fun t35 H =>
 (S14_1 call n) t6 t8 t34 t23 t24 t35 H)) (S14_0 call t6 t8 t10 H) := by kernel_rfl
theorem L16_0 (call : CallFn) (n : Nat) (t0 t1 t5 : AV) (H : AHeap) : S16_0 call (n + 1) t0 t1 t5 H = pO (aLen .sl H t0) H fun t13 H =>
 pLss t5 t13 H fun t14 H =>
 onBool t14 (pIa 1 t0 t5 H fun t19 H =>
 ldK .none H t19 fun t20 H =>
 pIa 1 t1 t5 H fun t23 H =>
 ldK .none H t23 fun t24 H =>
 pNeq t20 t24 H fun t25 H =>
 onBool t25 (some ((.bool false), H)) (pAdd t5 (.int .i64 (.ofNat 1)) H fun t16 H =>
 (S16_0 call n) t0 t1 t16 H)) (some ((.bool true), H)) := by kernel_rfl
end Go.Proofs.YtcolbcpeialmhaaGreatDoor
