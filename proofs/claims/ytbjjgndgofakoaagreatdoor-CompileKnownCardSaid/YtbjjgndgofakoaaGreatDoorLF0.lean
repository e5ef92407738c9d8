/- Plain functions, printed: part 0. -/
import Derived.Test.YtbjjgndgofakoaaGreatDoorAdE
import Derived.Test.YtbjjgndgofakoaaGreatDoorProg
import Derived.KernelRfl
namespace Go.Proofs.YtbjjgndgofakoaaGreatDoor
open Go.Ab
set_option maxRecDepth 100000
/- gantline/gantlinelaw25.CompileKnown -/
noncomputable def S3_0 (_ : CallFn) (t46 t49 : AV) (H : AHeap) : R :=
  pPick t46 t49 (.bool false) H fun t50 H =>
  some (t50, H)
noncomputable def S3_1 (call : CallFn) (t8 t40 t44 : AV) (H : AHeap) : R :=
  pPick t40 t44 (.bool false) H fun t45 H =>
  guardA t45 true (ldK (.some 2) H t8 fun t47 H =>
  pO (someAgg (aFill [(.int .i64 (.ofNat 0)), (.int .i64 (.ofNat 0))] [(0, 1, (.int .i64 (.ofNat 7))), (1, 1, (.int .i64 (.ofNat 14)))])) H fun t48 H =>
  pO (aEq false (.struct [(0, .none, .int), (1, .none, .int)]) t47 t48) H fun t49 H =>
  S3_0 call t45 t49 H) (S3_0 call t45 U H)
noncomputable def S3_2 (call : CallFn) (t5 t8 t35 t38 : AV) (H : AHeap) : R :=
  pPick t35 t38 (.bool false) H fun t39 H =>
  guardA t39 true (pFa 4 t5 H fun t41 H =>
  ldK .none H t41 fun t42 H =>
  pO (aLen .sl H t42) H fun t43 H =>
  pEql t43 (.int .i64 (.ofNat 0)) H fun t44 H =>
  S3_1 call t8 t39 t44 H) (S3_1 call t8 t39 U H)
noncomputable def S3_3 (call : CallFn) (t5 t6 t8 t30 t33 : AV) (H : AHeap) : R :=
  pPick t30 t33 (.bool false) H fun t34 H =>
  guardA t34 true (ldK (.some 2) H t6 fun t36 H =>
  pO (someAgg (aFill [(.int .i64 (.ofNat 0)), (.int .i64 (.ofNat 0))] [(0, 1, (.int .i64 (.ofNat 6)))])) H fun t37 H =>
  pO (aEq false (.struct [(0, .none, .int), (1, .none, .int)]) t36 t37) H fun t38 H =>
  S3_2 call t5 t8 t34 t38 H) (S3_2 call t5 t8 t34 U H)
noncomputable def S3_4 (call : CallFn) (H : AHeap) : R :=
  pC call 4 [] H fun t9 H =>
  pO (aUn .not t9) H fun t10 H =>
  onBool t10 (some ((.bool false), H)) (pC call 5 [(.str [102, 117, 110, 99, 32, 109, 97, 105, 110, 40, 41, 32, 123, 32, 112, 114, 105, 110, 116, 32, 116, 114, 117, 101, 59, 32, 125])] H fun t12 H =>
  pExt t12 0 H fun t13 H =>
  pExt t12 1 H fun t14 H =>
  pNew [.nilsl, .nilsl, .nilsl, .nilsl, .nilsl, (.int .i64 (.ofNat 0))] H fun t1 H =>
  pNew [(.int .i64 (.ofNat 0)), (.int .i64 (.ofNat 0))] H fun t2 H =>
  stK 6 H t1 t13 fun _ H =>
  stK 2 H t2 t14 fun _ H =>
  pC call 5 [(.str [])] H fun t16 H =>
  pExt t16 0 H fun t17 H =>
  pExt t16 1 H fun t18 H =>
  pNew [.nilsl, .nilsl, .nilsl, .nilsl, .nilsl, (.int .i64 (.ofNat 0))] H fun t3 H =>
  pNew [(.int .i64 (.ofNat 0)), (.int .i64 (.ofNat 0))] H fun t4 H =>
  stK 6 H t3 t17 fun _ H =>
  stK 2 H t4 t18 fun _ H =>
  pC call 5 [(.str [35])] H fun t20 H =>
  pExt t20 0 H fun t21 H =>
  pExt t20 1 H fun t22 H =>
  pNew [.nilsl, .nilsl, .nilsl, .nilsl, .nilsl, (.int .i64 (.ofNat 0))] H fun t5 H =>
  pNew [(.int .i64 (.ofNat 0)), (.int .i64 (.ofNat 0))] H fun t6 H =>
  stK 6 H t5 t21 fun _ H =>
  stK 2 H t6 t22 fun _ H =>
  pC call 6 [(.str [102, 117, 110, 99, 32, 109, 97, 105, 110, 40, 41, 32, 123, 32, 120, 59, 32, 125])] H fun t24 H =>
  pExt t24 0 H fun _ H =>
  pExt t24 1 H fun t26 H =>
  pNew [(.int .i64 (.ofNat 0)), (.int .i64 (.ofNat 0))] H fun t8 H =>
  stK 2 H t8 t26 fun _ H =>
  ldK (.some 2) H t2 fun t27 H =>
  pO (someAgg (aFill [(.int .i64 (.ofNat 0)), (.int .i64 (.ofNat 0))] [(0, 1, (.int .i64 (.ofNat 7))), (1, 1, (.int .i64 (.ofNat 20)))])) H fun t28 H =>
  pO (aEq false (.struct [(0, .none, .int), (1, .none, .int)]) t27 t28) H fun t29 H =>
  guardA t29 true (ldK (.some 2) H t4 fun t31 H =>
  pO (someAgg (aFill [(.int .i64 (.ofNat 0)), (.int .i64 (.ofNat 0))] [(0, 1, (.int .i64 (.ofNat 7)))])) H fun t32 H =>
  pO (aEq false (.struct [(0, .none, .int), (1, .none, .int)]) t31 t32) H fun t33 H =>
  S3_3 call t5 t6 t8 t29 t33 H) (S3_3 call t5 t6 t8 t29 U H))
noncomputable def S3 : Ff := ⟨fun call l H => argA0 (S3_4 call H) l⟩
/- gantline/gantlinelaw25.awake -/
noncomputable def S4_0 (_ : CallFn) (t58 t62 : AV) (H : AHeap) : R :=
  pPick t58 t62 (.bool false) H fun t63 H =>
  some (t63, H)
noncomputable def S4_1 (call : CallFn) (t7 t53 t56 : AV) (H : AHeap) : R :=
  pPick t53 t56 (.bool false) H fun t57 H =>
  guardA t57 true (pFa 0 t7 H fun t59 H =>
  ldK .none H t59 fun t60 H =>
  pN (aBsl 1 1 [(.int .i64 (.ofNat 0))] [(0, 1, (.int .i64 (.ofNat 7)))]) H fun t61 H =>
  pC call 9 [t60, t61] H fun t62 H =>
  S4_0 call t57 t62 H) (S4_0 call t57 U H)
noncomputable def S4_2 (call : CallFn) (t7 t49 t51 : AV) (H : AHeap) : R :=
  pPick t49 t51 (.bool false) H fun t52 H =>
  guardA t52 true (pFa 1 t7 H fun t54 H =>
  ldK .none H t54 fun t55 H =>
  pEql t55 (.int .i64 (.ofNat 1)) H fun t56 H =>
  S4_1 call t7 t52 t56 H) (S4_1 call t7 t52 U H)
noncomputable def S4_3 (call : CallFn) (t7 t8 t44 t47 : AV) (H : AHeap) : R :=
  pPick t44 t47 (.bool false) H fun t48 H =>
  guardA t48 true (pEql t8 (.int .i64 (.ofNat 0)) H fun t51 H =>
  S4_2 call t7 t48 t51 H) (S4_2 call t7 t48 U H)
noncomputable def S4_4 (call : CallFn) (t5 t7 t8 t39 t42 : AV) (H : AHeap) : R :=
  pPick t39 t42 (.bool false) H fun t43 H =>
  guardA t43 true (pO (aLen .sl H t5) H fun t46 H =>
  pGtr t46 (.int .i64 (.ofNat 4)) H fun t47 H =>
  S4_3 call t7 t8 t43 t47 H) (S4_3 call t7 t8 t43 U H)
noncomputable def S4_5 (call : CallFn) (t5 t6 t7 t8 t34 t37 : AV) (H : AHeap) : R :=
  pPick t34 t37 (.bool false) H fun t38 H =>
  guardA t38 true (ldK (.some 2) H t6 fun t40 H =>
  pO (someAgg (aFill [(.int .i64 (.ofNat 0)), (.int .i64 (.ofNat 0))] [])) H fun t41 H =>
  pO (aEq false (.struct [(0, .none, .int), (1, .none, .int)]) t40 t41) H fun t42 H =>
  S4_4 call t5 t7 t8 t38 t42 H) (S4_4 call t5 t7 t8 t38 U H)
noncomputable def S4_6 (call : CallFn) (t4 t5 t6 t7 t8 t30 t32 : AV) (H : AHeap) : R :=
  pPick t30 t32 (.bool false) H fun t33 H =>
  guardA t33 true (ldK (.some 2) H t4 fun t35 H =>
  pO (someAgg (aFill [(.int .i64 (.ofNat 0)), (.int .i64 (.ofNat 0))] [(0, 1, (.int .i64 (.ofNat 6)))])) H fun t36 H =>
  pO (aEq false (.struct [(0, .none, .int), (1, .none, .int)]) t35 t36) H fun t37 H =>
  S4_5 call t5 t6 t7 t8 t33 t37 H) (S4_5 call t5 t6 t7 t8 t33 U H)
noncomputable def S4_7 (call : CallFn) (H : AHeap) : R :=
  pC call 5 [(.str [102, 117, 110, 99, 32, 109, 97, 105, 110, 40, 41, 32, 123, 32, 112, 114, 105, 110, 116, 32, 55, 59, 32, 125])] H fun t10 H =>
  pExt t10 0 H fun t11 H =>
  pExt t10 1 H fun t12 H =>
  pNew [.nilsl, .nilsl, .nilsl, .nilsl, .nilsl, (.int .i64 (.ofNat 0))] H fun t1 H =>
  pNew [(.int .i64 (.ofNat 0)), (.int .i64 (.ofNat 0))] H fun t2 H =>
  stK 6 H t1 t11 fun _ H =>
  stK 2 H t2 t12 fun _ H =>
  pC call 5 [(.str [120])] H fun t14 H =>
  pExt t14 0 H fun t15 H =>
  pExt t14 1 H fun t16 H =>
  pNew [.nilsl, .nilsl, .nilsl, .nilsl, .nilsl, (.int .i64 (.ofNat 0))] H fun t3 H =>
  pNew [(.int .i64 (.ofNat 0)), (.int .i64 (.ofNat 0))] H fun t4 H =>
  stK 6 H t3 t15 fun _ H =>
  stK 2 H t4 t16 fun _ H =>
  pC call 6 [(.str [102, 117, 110, 99, 32, 109, 97, 105, 110, 40, 41, 32, 123, 32, 125])] H fun t18 H =>
  pExt t18 0 H fun t19 H =>
  pExt t18 1 H fun t20 H =>
  pNew [(.int .i64 (.ofNat 0)), (.int .i64 (.ofNat 0))] H fun t6 H =>
  stK 2 H t6 t20 fun _ H =>
  ldK (.some 6) H t1 fun t22 H =>
  pN (aMksl 1 8 [(.int .i64 (.ofNat 0))] (.int .i64 (.ofNat 50)) (.int .i64 (.ofNat 50))) H fun t23 H =>
  pNew [.nilsl, (.int .i64 (.ofNat 0)), (.int .i64 (.ofNat 0)), (.int .i64 (.ofNat 0)), (.int .i64 (.ofNat 0)), (.int .i64 (.ofNat 0)), .nilsl] H fun t7 H =>
  pC call 7 [t22, (.int .i64 (.ofNat 8)), t23] H fun t24 H =>
  pExt t24 0 H fun t25 H =>
  pExt t24 1 H fun t26 H =>
  stK 7 H t7 t25 fun _ H =>
  ldK (.some 2) H t2 fun t27 H =>
  pO (someAgg (aFill [(.int .i64 (.ofNat 0)), (.int .i64 (.ofNat 0))] [])) H fun t28 H =>
  pO (aEq false (.struct [(0, .none, .int), (1, .none, .int)]) t27 t28) H fun t29 H =>
  guardA t29 true (ldK (.some 6) H t1 fun t31 H =>
  pC call 8 [t31] H fun t32 H =>
  S4_6 call t4 t19 t6 t7 t26 t29 t32 H) (S4_6 call t4 t19 t6 t7 t26 t29 U H)
noncomputable def S4 : Ff := ⟨fun call l H => argA0 (S4_7 call H) l⟩
/- gantline/compile.Compile -/
noncomputable def S5_0 (call : CallFn) (t0 : AV) (H : AHeap) : R :=
  pNew [.nilsl, .nilsl, .nilsl, .nilsl, .nilsl, (.int .i64 (.ofNat 0))] H fun t2 H =>
  pNew [(.int .i64 (.ofNat 0)), (.int .i64 (.ofNat 0))] H fun t3 H =>
  pC call 10 [t0] H fun t12 H =>
  pExt t12 0 H fun t13 H =>
  pExt t12 1 H fun t14 H =>
  pExt t12 2 H fun t15 H =>
  pNew [(.str []), (.str []), (.int .i64 (.ofNat 0)), .nilsl] H fun t4 H =>
  stK 4 H t4 t13 fun _ H =>
  pNeq t15 (.int .i64 (.ofNat 0)) H fun t17 H =>
  onBool t17 (pO (someAgg (aFill [.nilsl, .nilsl, .nilsl, .nilsl, .nilsl, (.int .i64 (.ofNat 0))] [])) H fun t18 H =>
  pO (someAgg (aFill [(.int .i64 (.ofNat 0)), (.int .i64 (.ofNat 0))] [(0, 1, t15), (1, 1, t14)])) H fun t21 H =>
  stK 6 H t2 t18 fun _ H =>
  stK 2 H t3 t21 fun _ H =>
  ob (allM (fun o => o) [aLoad (.some 6) H t2, aLoad (.some 2) H t3]) fun vs => some (resV vs, H)) (ldK (.some 4) H t4 fun t23 H =>
  pC call 11 [t23] H fun t24 H =>
  pExt t24 0 H fun t25 H =>
  pExt t24 1 H fun t26 H =>
  pNeq t26 (.int .i64 (.ofNat 0)) H fun t28 H =>
  onBool t28 (pO (someAgg (aFill [.nilsl, .nilsl, .nilsl, .nilsl, .nilsl, (.int .i64 (.ofNat 0))] [])) H fun t29 H =>
  pO (someAgg (aFill [(.int .i64 (.ofNat 0)), (.int .i64 (.ofNat 0))] [(0, 1, t26), (1, 1, t25)])) H fun t32 H =>
  stK 6 H t2 t29 fun _ H =>
  stK 2 H t3 t32 fun _ H =>
  ob (allM (fun o => o) [aLoad (.some 6) H t2, aLoad (.some 2) H t3]) fun vs => some (resV vs, H)) (ldK (.some 4) H t4 fun t34 H =>
  pC call 12 [t34] H fun t35 H =>
  pExt t35 0 H fun t36 H =>
  pExt t35 1 H fun t37 H =>
  pNew [.nilsl, .nilsl, .nilsl, .nilsl, .nilsl, (.int .i64 (.ofNat 0))] H fun t9 H =>
  stK 6 H t9 t36 fun _ H =>
  pNeq t37 (.int .i64 (.ofNat 0)) H fun t39 H =>
  onBool t39 (pO (someAgg (aFill [.nilsl, .nilsl, .nilsl, .nilsl, .nilsl, (.int .i64 (.ofNat 0))] [])) H fun t40 H =>
  pO (someAgg (aFill [(.int .i64 (.ofNat 0)), (.int .i64 (.ofNat 0))] [(0, 1, t37), (1, 1, (.int .i64 (.ofNat 0)))])) H fun t42 H =>
  stK 6 H t2 t40 fun _ H =>
  stK 2 H t3 t42 fun _ H =>
  ob (allM (fun o => o) [aLoad (.some 6) H t2, aLoad (.some 2) H t3]) fun vs => some (resV vs, H)) (ldK (.some 6) H t9 fun t44 H =>
  pC call 13 [t44] H fun t45 H =>
  pExt t45 0 H fun t46 H =>
  pExt t45 1 H fun t47 H =>
  stK 6 H t9 t46 fun _ H =>
  pNeq t47 (.int .i64 (.ofNat 0)) H fun t49 H =>
  onBool t49 (pO (someAgg (aFill [.nilsl, .nilsl, .nilsl, .nilsl, .nilsl, (.int .i64 (.ofNat 0))] [])) H fun t50 H =>
  pO (someAgg (aFill [(.int .i64 (.ofNat 0)), (.int .i64 (.ofNat 0))] [(0, 1, t47), (1, 1, (.int .i64 (.ofNat 0)))])) H fun t52 H =>
  stK 6 H t2 t50 fun _ H =>
  stK 2 H t3 t52 fun _ H =>
  ob (allM (fun o => o) [aLoad (.some 6) H t2, aLoad (.some 2) H t3]) fun vs => some (resV vs, H)) (ldK (.some 6) H t9 fun t53 H =>
  pO (someAgg (aFill [(.int .i64 (.ofNat 0)), (.int .i64 (.ofNat 0))] [])) H fun t54 H =>
  stK 6 H t2 t53 fun _ H =>
  stK 2 H t3 t54 fun _ H =>
  ob (allM (fun o => o) [aLoad (.some 6) H t2, aLoad (.some 2) H t3]) fun vs => some (resV vs, H)))))
noncomputable def S5 : Ff := ⟨fun call l H => argA1 (fun t0 => S5_0 call t0 H) l⟩
/- gantline/compile.Bytes -/
noncomputable def S6_0 (call : CallFn) (t0 : AV) (H : AHeap) : R :=
  pNew [(.int .i64 (.ofNat 0)), (.int .i64 (.ofNat 0))] H fun t3 H =>
  pC call 5 [t0] H fun t8 H =>
  pExt t8 0 H fun t9 H =>
  pExt t8 1 H fun t10 H =>
  pNew [.nilsl, .nilsl, .nilsl, .nilsl, .nilsl, (.int .i64 (.ofNat 0))] H fun t4 H =>
  pNew [(.int .i64 (.ofNat 0)), (.int .i64 (.ofNat 0))] H fun t5 H =>
  stK 6 H t4 t9 fun _ H =>
  stK 2 H t5 t10 fun _ H =>
  pFa 0 t5 H fun t11 H =>
  ldK .none H t11 fun t12 H =>
  pNeq t12 (.int .i64 (.ofNat 0)) H fun t13 H =>
  onBool t13 (ldK (.some 2) H t5 fun t14 H =>
  stK 2 H t3 t14 fun _ H =>
  ob (allM (fun o => o) [some .nilsl, aLoad (.some 2) H t3]) fun vs => some (resV vs, H)) (ldK (.some 6) H t4 fun t15 H =>
  ldK (.some 2) H t5 fun t17 H =>
  pC call 14 [t15] H fun t16 H =>
  andR (andB (ckV (aLoad (.some 2) H t5) t17) true) (
  stK 2 H t3 t17 fun _ H =>
  ob (allM (fun o => o) [some t16, aLoad (.some 2) H t3]) fun vs => some (resV vs, H)))
noncomputable def S6 : Ff := ⟨fun call l H => argA1 (fun t0 => S6_0 call t0 H) l⟩
/- gantline/run.Run -/
noncomputable def S7_0 (call : CallFn) (t6 t8 t10 : AV) (H : AHeap) : R :=
  pC call 17 [t8, t10] H fun t38 H =>
  stK 7 H t6 t38 fun _ H =>
  ob (allM (fun o => o) [aLoad (.some 7) H t6, some (.int .i64 (.ofNat 0))]) fun vs => some (resV vs, H)
noncomputable def S7_1 (call : CallFn) (n : Nat) : AV → AV → AV → AV → AV → AV → AHeap → R :=
  Nat.rec (motive := fun _ => AV → AV → AV → AV → AV → AV → AHeap → R) (fun _ _ _ _ _ _ _ => none) (fun _ q0 t6 t8 t10 t23 t24 t25 H => pLss t25 t24 H fun t26 H =>
  onBool t26 (pIa 1 t23 t25 H fun t27 H =>
  ldK .none H t27 fun t28 H =>
  pC call 16 [t8, t28] H fun t31 H =>
  pO (aUn .not t31) H fun t32 H =>
  onBool t32 (S7_0 call t6 t8 t10 H) (pAdd t10 (.int .i64 (.ofNat 1)) H fun t34 H =>
  pAdd t25 (.int .i64 (.ofNat 1)) H fun t35 H =>
  q0 t6 t8 t34 t23 t24 t35 H)) (S7_0 call t6 t8 t10 H)) n
noncomputable def S7_2 (call : CallFn) (t0 t1 t2 : AV) (H : AHeap) : R :=
  pBox t0 H fun t3 H =>
  pNew [.nilsl, (.int .i64 (.ofNat 0)), (.int .i64 (.ofNat 0)), (.int .i64 (.ofNat 0)), (.int .i64 (.ofNat 0)), (.int .i64 (.ofNat 0)), .nilsl] H fun t6 H =>
  ldK (.some 6) H t3 fun t14 H =>
  pC call 15 [t14, t1] H fun t16 H =>
  pExt t16 0 H fun t17 H =>
  pExt t16 1 H fun t18 H =>
  pNeq t18 (.int .i64 (.ofNat 0)) H fun t20 H =>
  onBool t20 (pO (someAgg (aFill [.nilsl, (.int .i64 (.ofNat 0)), (.int .i64 (.ofNat 0)), (.int .i64 (.ofNat 0)), (.int .i64 (.ofNat 0)), (.int .i64 (.ofNat 0)), .nilsl] [])) H fun t21 H =>
  stK 7 H t6 t21 fun _ H =>
  ob (allM (fun o => o) [aLoad (.some 7) H t6, some t18]) fun vs => some (resV vs, H)) (pO (aLen .sl H t2) H fun t24 H =>
  S7_1 call 1000000 t6 t17 (.int .i64 (.ofNat 0)) t2 t24 (.int .i64 (.ofNat 0)) H)
noncomputable def S7 : Ff := ⟨fun call l H => argA3 (fun t0 t1 t2 => S7_2 call t0 t1 t2 H) l⟩
/- gantline/verify.Module -/
noncomputable def S8_0 (call : CallFn) (t0 : AV) (H : AHeap) : R :=
  pBox t0 H fun t1 H =>
  ldK (.some 6) H t1 fun t6 H =>
  pC call 18 [t6] H fun t7 H =>
  pExt t7 0 H fun t8 H =>
  pExt t7 1 H fun t9 H =>
  pNew [(.int .i64 (.ofNat 0)), (.int .i64 (.ofNat 0)), (.int .i64 (.ofNat 0))] H fun t3 H =>
  stK 3 H t3 t8 fun _ H =>
  some (t9, H)
noncomputable def S8 : Ff := ⟨fun call l H => argA1 (fun t0 => S8_0 call t0 H) l⟩
/- gantline/gantlineref17.Nums -/
noncomputable def S9_0 (_ : CallFn) (n : Nat) : AV → AV → AV → AHeap → R :=
  Nat.rec (motive := fun _ => AV → AV → AV → AHeap → R) (fun _ _ _ _ => none) (fun _ q0 t0 t1 t5 H => pO (aLen .sl H t0) H fun t13 H =>
  pLss t5 t13 H fun t14 H =>
  onBool t14 (pIa 1 t0 t5 H fun t19 H =>
  ldK .none H t19 fun t20 H =>
  pIa 1 t1 t5 H fun t23 H =>
  ldK .none H t23 fun t24 H =>
  pNeq t20 t24 H fun t25 H =>
  onBool t25 (some ((.bool false), H)) (pAdd t5 (.int .i64 (.ofNat 1)) H fun t16 H =>
  q0 t0 t1 t16 H)) (some ((.bool true), H))) n
noncomputable def S9_1 (call : CallFn) (t0 t1 : AV) (H : AHeap) : R :=
  pO (aLen .sl H t0) H fun t7 H =>
  pO (aLen .sl H t1) H fun t9 H =>
  pNeq t7 t9 H fun t10 H =>
  onBool t10 (some ((.bool false), H)) (S9_0 call 1000000 t0 t1 (.int .i64 (.ofNat 0)) H)
noncomputable def S9 : Ff := ⟨fun call l H => argA2 (fun t0 t1 => S9_1 call t0 t1 H) l⟩
/- gantline/parse.Parse -/
noncomputable def S10_0 (call : CallFn) (t0 : AV) (H : AHeap) : R :=
  pNew [(.str []), (.str []), (.int .i64 (.ofNat 0)), .nilsl] H fun t2 H =>
  pC call 19 [t0] H fun t12 H =>
  pExt t12 0 H fun t13 H =>
  pExt t12 1 H fun t14 H =>
  pExt t12 2 H fun t15 H =>
  pNeq t15 (.int .i64 (.ofNat 0)) H fun t17 H =>
  onBool t17 (pO (someAgg (aFill [(.str []), (.str []), (.int .i64 (.ofNat 0)), .nilsl] [])) H fun t18 H =>
  stK 4 H t2 t18 fun _ H =>
  ob (allM (fun o => o) [aLoad (.some 4) H t2, some t14, some t15]) fun vs => some (resV vs, H)) (pO (someAgg (aFill [.nilsl, (.int .i64 (.ofNat 0)), (.int .i64 (.ofNat 0)), (.int .i64 (.ofNat 0)), (.int .i64 (.ofNat 0))] [(0, 1, t13)])) H fun t22 H =>
  pBox t22 H fun t23 H =>
  pC call 20 [t23] H fun t25 H =>
  pNew [(.str []), (.str []), (.int .i64 (.ofNat 0)), .nilsl] H fun t9 H =>
  stK 4 H t9 t25 fun _ H =>
  pO (aNil t23) H fun t27 H =>
  pFa 3 t27 H fun t28 H =>
  ldK .none H t28 fun t29 H =>
  pNeq t29 (.int .i64 (.ofNat 0)) H fun t30 H =>
  onBool t30 (pO (someAgg (aFill [(.str []), (.str []), (.int .i64 (.ofNat 0)), .nilsl] [])) H fun t31 H =>
  pO (aNil t23) H fun t33 H =>
  pFa 4 t33 H fun t34 H =>
  ldK .none H t34 fun t35 H =>
  pO (aNil t23) H fun t37 H =>
  pFa 3 t37 H fun t38 H =>
  ldK .none H t38 fun t39 H =>
  stK 4 H t2 t31 fun _ H =>
  andR (andB (ckV (aLoad .none H t34) t35) (andB (ckV (aLoad .none H t38) t39) true)) (
  ob (allM (fun o => o) [aLoad (.some 4) H t2, some t35, some t39]) fun vs => some (resV vs, H))) (ldK (.some 4) H t9 fun t40 H =>
  stK 4 H t2 t40 fun _ H =>
  ob (allM (fun o => o) [aLoad (.some 4) H t2, some (.int .i64 (.ofNat 0)), some (.int .i64 (.ofNat 0))]) fun vs => some (resV vs, H)))
noncomputable def S10 : Ff := ⟨fun call l H => argA1 (fun t0 => S10_0 call t0 H) l⟩
/- gantline/check.Check -/
noncomputable def S11_0 (_ : CallFn) (t4 : AV) (H : AHeap) : R :=
  pO (aNil t4) H fun t106 H =>
  pFa 4 t106 H fun t107 H =>
  ldK .none H t107 fun t108 H =>
  onBool t108 (pO (aNil t4) H fun t110 H =>
  pFa 5 t110 H fun t111 H =>
  ldK .none H t111 fun t112 H =>
  some (.tup [t112, (.int .i64 (.ofNat 7))], H)) (some (.tup [(.int .i64 (.ofNat 0)), (.int .i64 (.ofNat 0))], H))
noncomputable def S11_2 (_ : CallFn) (q0 : AV → AV → AV → AV → AHeap → R) (t4 t85 t86 t87 : AV) (H : AHeap) : R :=
  pAdd t87 (.int .i64 (.ofNat 1)) H fun t104 H =>
  q0 t4 t85 t86 t104 H
noncomputable def S11_3 (call : CallFn) (q0 : AV → AV → AV → AV → AHeap → R) (t4 t11 t85 t86 t87 t94 t99 : AV) (H : AHeap) : R :=
  pPick t94 t99 (.bool false) H fun t100 H =>
  onBool t100 (ldK (.some 4) H t11 fun t102 H =>
  pC call 26 [t4, t102] H fun _ H =>
  S11_2 call q0 t4 t85 t86 t87 H) (S11_2 call q0 t4 t85 t86 t87 H)
noncomputable def S11_1 (call : CallFn) (n : Nat) : AV → AV → AV → AV → AHeap → R :=
  Nat.rec (motive := fun _ => AV → AV → AV → AV → AHeap → R) (fun _ _ _ _ _ => none) (fun _ q0 t4 t85 t86 t87 H => pLss t87 t86 H fun t88 H =>
  onBool t88 (pIa 4 t85 t87 H fun t89 H =>
  ldK (.some 4) H t89 fun t90 H =>
  pNew [(.str []), (.str []), (.int .i64 (.ofNat 0)), .nilsl] H fun t11 H =>
  stK 4 H t11 t90 fun _ H =>
  pFa 0 t11 H fun t91 H =>
  ldK .none H t91 fun t92 H =>
  pEql t92 (.str [102, 117, 110, 99]) H fun t93 H =>
  guardA t93 true (pO (aNil t4) H fun t96 H =>
  pFa 4 t96 H fun t97 H =>
  ldK .none H t97 fun t98 H =>
  pO (aUn .not t98) H fun t99 H =>
  S11_3 call q0 t4 t11 t85 t86 t87 t93 t99 H) (S11_3 call q0 t4 t11 t85 t86 t87 t93 U H)) (S11_0 call t4 H)) n
noncomputable def S11_4 (call : CallFn) (t1 t4 t9 t63 t74 t80 : AV) (H : AHeap) : R :=
  pPick t74 t80 (.bool false) H fun t81 H =>
  ldK (.some 4) H t9 fun t82 H =>
  pC call 25 [t63, t81, t82] H fun _ H =>
  pFa 3 t1 H fun t84 H =>
  ldK .none H t84 fun t85 H =>
  pO (aLen .sl H t85) H fun t86 H =>
  S11_1 call 1000000 t4 t85 t86 (.int .i64 (.ofNat 0)) H
noncomputable def S11_5 (call : CallFn) (t1 t4 t9 t63 t74 t79 : AV) (H : AHeap) : R :=
  guardA t74 true (pEql t79 (.str [110, 111, 110, 101]) H fun t80 H =>
  S11_4 call t1 t4 t9 t63 t74 t80 H) (S11_4 call t1 t4 t9 t63 t74 U H)
noncomputable def S11_6 (call : CallFn) (t1 t4 t9 t63 t74 t78 : AV) (H : AHeap) : R :=
  guardA t74 true (ldK .none H t78 fun t79 H =>
  S11_5 call t1 t4 t9 t63 t74 t79 H) (S11_5 call t1 t4 t9 t63 t74 U H)
noncomputable def S11_7 (call : CallFn) (t1 t4 t9 t63 t74 t77 : AV) (H : AHeap) : R :=
  guardA t74 true (pFa 0 t77 H fun t78 H =>
  S11_6 call t1 t4 t9 t63 t74 t78 H) (S11_6 call t1 t4 t9 t63 t74 U H)
noncomputable def S11_8 (call : CallFn) (t1 t4 t9 t63 t74 t76 : AV) (H : AHeap) : R :=
  guardA t74 true (pIa 4 t76 (.int .i64 (.ofNat 1)) H fun t77 H =>
  S11_7 call t1 t4 t9 t63 t74 t77 H) (S11_7 call t1 t4 t9 t63 t74 U H)
noncomputable def S11_9 (call : CallFn) (t1 t4 t9 t63 t74 t75 : AV) (H : AHeap) : R :=
  guardA t74 true (ldK .none H t75 fun t76 H =>
  S11_8 call t1 t4 t9 t63 t74 t76 H) (S11_8 call t1 t4 t9 t63 t74 U H)
noncomputable def S11_10 (call : CallFn) (t1 t4 t7 t9 t63 t65 t72 : AV) (H : AHeap) : R :=
  pPick t65 t72 (.bool false) H fun t73 H =>
  guardA t73 true (pFa 3 t7 H fun t75 H =>
  S11_9 call t1 t4 t9 t63 t73 t75 H) (S11_9 call t1 t4 t9 t63 t73 U H)
noncomputable def S11_11 (call : CallFn) (t1 t4 t7 t9 t63 t65 t71 : AV) (H : AHeap) : R :=
  guardA t65 true (pEql t71 (.int .i64 (.ofNat 0)) H fun t72 H =>
  S11_10 call t1 t4 t7 t9 t63 t65 t72 H) (S11_10 call t1 t4 t7 t9 t63 t65 U H)
noncomputable def S11_12 (call : CallFn) (t1 t4 t7 t9 t63 t65 t70 : AV) (H : AHeap) : R :=
  guardA t65 true (pO (aLen .sl H t70) H fun t71 H =>
  S11_11 call t1 t4 t7 t9 t63 t65 t71 H) (S11_11 call t1 t4 t7 t9 t63 t65 U H)
noncomputable def S11_13 (call : CallFn) (t1 t4 t7 t9 t63 t65 t69 : AV) (H : AHeap) : R :=
  guardA t65 true (ldK .none H t69 fun t70 H =>
  S11_12 call t1 t4 t7 t9 t63 t65 t70 H) (S11_12 call t1 t4 t7 t9 t63 t65 U H)
noncomputable def S11_14 (call : CallFn) (t1 t4 t7 t9 t63 t65 t68 : AV) (H : AHeap) : R :=
  guardA t65 true (pFa 3 t68 H fun t69 H =>
  S11_13 call t1 t4 t7 t9 t63 t65 t69 H) (S11_13 call t1 t4 t7 t9 t63 t65 U H)
noncomputable def S11_15 (call : CallFn) (t1 t4 t7 t9 t63 t65 t67 : AV) (H : AHeap) : R :=
  guardA t65 true (pIa 4 t67 (.int .i64 (.ofNat 0)) H fun t68 H =>
  S11_14 call t1 t4 t7 t9 t63 t65 t68 H) (S11_14 call t1 t4 t7 t9 t63 t65 U H)
noncomputable def S11_16 (call : CallFn) (t1 t4 t7 t9 t63 t65 t66 : AV) (H : AHeap) : R :=
  guardA t65 true (ldK .none H t66 fun t67 H =>
  S11_15 call t1 t4 t7 t9 t63 t65 t67 H) (S11_15 call t1 t4 t7 t9 t63 t65 U H)
noncomputable def S11_17 (call : CallFn) (t1 t4 t7 t8 t9 : AV) (H : AHeap) : R :=
  guardA t8 true (pFa 3 t7 H fun t66 H =>
  S11_16 call t1 t4 t7 t9 t4 t8 t66 H) (S11_16 call t1 t4 t7 t9 t4 t8 U H)
noncomputable def S11_18 (call : CallFn) (t1 t4 : AV) (H : AHeap) : R :=
  ldK (.some 4) H t1 fun t43 H =>
  pC call 23 [t4, t43] H fun _ H =>
  pC call 24 [t4, (.str [102, 117, 110, 99]), (.str [109, 97, 105, 110])] H fun t47 H =>
  pExt t47 0 H fun t48 H =>
  pExt t47 1 H fun t49 H =>
  pNew [(.str []), (.str []), (.int .i64 (.ofNat 0)), .nilsl] H fun t7 H =>
  stK 4 H t7 t48 fun _ H =>
  ldK (.some 4) H t1 fun t50 H =>
  pNew [(.str []), (.str []), (.int .i64 (.ofNat 0)), .nilsl] H fun t9 H =>
  stK 4 H t9 t50 fun _ H =>
  pFa 3 t1 H fun t51 H =>
  ldK .none H t51 fun t52 H =>
  pO (aLen .sl H t52) H fun t53 H =>
  pGtr t53 (.int .i64 (.ofNat 0)) H fun t54 H =>
  onBool t54 (pFa 3 t1 H fun t55 H =>
  ldK .none H t55 fun t56 H =>
  pFa 3 t1 H fun t57 H =>
  ldK .none H t57 fun t58 H =>
  pO (aLen .sl H t58) H fun t59 H =>
  pSub t59 (.int .i64 (.ofNat 1)) H fun t60 H =>
  pIa 4 t56 t60 H fun t61 H =>
  ldK (.some 4) H t61 fun t62 H =>
  stK 4 H t9 t62 fun _ H =>
  S11_17 call t1 t4 t7 t49 t9 H) (S11_17 call t1 t4 t7 t49 t9 H)
noncomputable def S11_20 (_ : CallFn) (q1 : AV → AV → AV → AV → AV → AHeap → R) (t1 t4 t28 t29 t30 : AV) (H : AHeap) : R :=
  pAdd t30 (.int .i64 (.ofNat 1)) H fun t41 H =>
  q1 t1 t4 t28 t29 t41 H
noncomputable def S11_19 (call : CallFn) (n : Nat) : AV → AV → AV → AV → AV → AHeap → R :=
  Nat.rec (motive := fun _ => AV → AV → AV → AV → AV → AHeap → R) (fun _ _ _ _ _ _ => none) (fun _ q1 t1 t4 t28 t29 t30 H => pLss t30 t29 H fun t31 H =>
  onBool t31 (pIa 4 t28 t30 H fun t32 H =>
  ldK (.some 4) H t32 fun t33 H =>
  pNew [(.str []), (.str []), (.int .i64 (.ofNat 0)), .nilsl] H fun t6 H =>
  stK 4 H t6 t33 fun _ H =>
  pFa 0 t6 H fun t34 H =>
  ldK .none H t34 fun t35 H =>
  pEql t35 (.str [115, 116, 114, 117, 99, 116]) H fun t36 H =>
  onBool t36 (pFa 3 t6 H fun t38 H =>
  ldK .none H t38 fun t39 H =>
  pC call 22 [t4, t39] H fun _ H =>
  S11_20 call q1 t1 t4 t28 t29 t30 H) (S11_20 call q1 t1 t4 t28 t29 t30 H)) (S11_18 call t1 t4 H)) n
noncomputable def S11_21 (call : CallFn) (t1 t15 t18 : AV) (H : AHeap) : R :=
  pPick t15 (.bool true) t18 H fun t19 H =>
  onBool t19 (some (.tup [(.int .i64 (.ofNat 0)), (.int .i64 (.ofNat 7))], H)) (ldK (.some 4) H t1 fun t20 H =>
  pO (someAgg (aFill [(.str []), (.str []), (.int .i64 (.ofNat 0)), .nilsl, (.bool false), (.int .i64 (.ofNat 0)), .nilsl, (.int .i64 (.ofNat 0)), (.str []), (.str []), (.int .i64 (.ofNat 0)), .nilsl] [(0, 4, t20)])) H fun t21 H =>
  pBox t21 H fun t22 H =>
  pFa 3 t1 H fun t24 H =>
  ldK .none H t24 fun t25 H =>
  pC call 22 [t22, t25] H fun _ H =>
  pFa 3 t1 H fun t27 H =>
  ldK .none H t27 fun t28 H =>
  pO (aLen .sl H t28) H fun t29 H =>
  S11_19 call 1000000 t1 t22 t28 t29 (.int .i64 (.ofNat 0)) H)
noncomputable def S11_22 (call : CallFn) (t0 : AV) (H : AHeap) : R :=
  pBox t0 H fun t1 H =>
  pFa 0 t1 H fun t12 H =>
  ldK .none H t12 fun t13 H =>
  pNeq t13 (.str [112, 114, 111, 103, 114, 97, 109]) H fun t14 H =>
  guardA t14 false (ldK (.some 4) H t1 fun t16 H =>
  pC call 21 [t16] H fun t17 H =>
  pO (aUn .not t17) H fun t18 H =>
  S11_21 call t1 t14 t18 H) (S11_21 call t1 t14 U H)
noncomputable def S11 : Ff := ⟨fun call l H => argA1 (fun t0 => S11_22 call t0 H) l⟩
/- gantline/lower.Lower -/
noncomputable def S12_0 (_ : CallFn) (t2 t6 t92 t99 : AV) (H : AHeap) : R :=
  pPick t92 (.bool true) t99 H fun t100 H =>
  onBool t100 (pO (someAgg (aFill [.nilsl, .nilsl, .nilsl, .nilsl, .nilsl, (.int .i64 (.ofNat 0))] [])) H fun t101 H =>
  stK 6 H t2 t101 fun _ H =>
  ob (allM (fun o => o) [aLoad (.some 6) H t2, some (.int .i64 (.ofNat 2))]) fun vs => some (resV vs, H)) (pO (aNil t6) H fun t103 H =>
  pFa 4 t103 H fun t104 H =>
  ldK (.some 6) H t104 fun t105 H =>
  stK 6 H t2 t105 fun _ H =>
  ob (allM (fun o => o) [aLoad (.some 6) H t2, some (.int .i64 (.ofNat 0))]) fun vs => some (resV vs, H))
noncomputable def S12_1 (call : CallFn) (t2 t6 t83 t90 : AV) (H : AHeap) : R :=
  pPick t83 (.bool true) t90 H fun t91 H =>
  guardA t91 false (pO (aNil t6) H fun t94 H =>
  pFa 4 t94 H fun t95 H =>
  pFa 3 t95 H fun t96 H =>
  ldK .none H t96 fun t97 H =>
  pO (aLen .sl H t97) H fun t98 H =>
  pGtr t98 (.int .i64 (.ofNat 1024)) H fun t99 H =>
  S12_0 call t2 t6 t91 t99 H) (S12_0 call t2 t6 t91 U H)
noncomputable def S12_2 (call : CallFn) (t2 t6 t74 t81 : AV) (H : AHeap) : R :=
  pPick t74 (.bool true) t81 H fun t82 H =>
  guardA t82 false (pO (aNil t6) H fun t85 H =>
  pFa 4 t85 H fun t86 H =>
  pFa 0 t86 H fun t87 H =>
  ldK .none H t87 fun t88 H =>
  pO (aLen .sl H t88) H fun t89 H =>
  pGtr t89 (.int .i64 (.ofNat 1024)) H fun t90 H =>
  S12_1 call t2 t6 t82 t90 H) (S12_1 call t2 t6 t82 U H)
noncomputable def S12_3 (call : CallFn) (t2 t6 t65 t72 : AV) (H : AHeap) : R :=
  pPick t65 (.bool true) t72 H fun t73 H =>
  guardA t73 false (pO (aNil t6) H fun t76 H =>
  pFa 4 t76 H fun t77 H =>
  pFa 2 t77 H fun t78 H =>
  ldK .none H t78 fun t79 H =>
  pO (aLen .sl H t79) H fun t80 H =>
  pGtr t80 (.int .i64 (.ofNat 4096)) H fun t81 H =>
  S12_2 call t2 t6 t73 t81 H) (S12_2 call t2 t6 t73 U H)
noncomputable def S12_4 (call : CallFn) (t2 t6 t56 t63 : AV) (H : AHeap) : R :=
  pPick t56 (.bool true) t63 H fun t64 H =>
  guardA t64 false (pO (aNil t6) H fun t67 H =>
  pFa 4 t67 H fun t68 H =>
  pFa 1 t68 H fun t69 H =>
  ldK .none H t69 fun t70 H =>
  pO (aLen .sl H t70) H fun t71 H =>
  pGtr t71 (.int .i64 (.ofNat 256)) H fun t72 H =>
  S12_3 call t2 t6 t64 t72 H) (S12_3 call t2 t6 t64 U H)
noncomputable def S12_5 (call : CallFn) (t2 t6 : AV) (H : AHeap) : R :=
  pO (aNil t6) H fun t53 H =>
  pFa 10 t53 H fun t54 H =>
  ldK .none H t54 fun t55 H =>
  guardA t55 false (pO (aNil t6) H fun t58 H =>
  pFa 4 t58 H fun t59 H =>
  pFa 4 t59 H fun t60 H =>
  ldK .none H t60 fun t61 H =>
  pO (aLen .sl H t61) H fun t62 H =>
  pGtr t62 (.int .i64 (.ofNat 128)) H fun t63 H =>
  S12_4 call t2 t6 t55 t63 H) (S12_4 call t2 t6 t55 U H)
noncomputable def S12_7 (call : CallFn) (q0 : AV → AV → AV → AV → AV → AHeap → R) (t2 t6 t8 t9 t32 t33 t34 : AV) (H : AHeap) : R :=
  ldK (.some 4) H t9 fun t49 H =>
  pC call 29 [t6, t8, t49, .nilsl] H fun _ H =>
  pAdd t34 (.int .i64 (.ofNat 1)) H fun t51 H =>
  q0 t2 t6 t32 t33 t51 H
noncomputable def S12_6 (call : CallFn) (n : Nat) : AV → AV → AV → AV → AV → AHeap → R :=
  Nat.rec (motive := fun _ => AV → AV → AV → AV → AV → AHeap → R) (fun _ _ _ _ _ _ => none) (fun _ q0 t2 t6 t32 t33 t34 H => pLss t34 t33 H fun t35 H =>
  onBool t35 (pIa 4 t32 t34 H fun t37 H =>
  ldK (.some 4) H t37 fun t38 H =>
  pNew [(.str []), (.str []), (.int .i64 (.ofNat 0)), .nilsl] H fun t9 H =>
  stK 4 H t9 t38 fun _ H =>
  pFa 1 t9 H fun t39 H =>
  ldK .none H t39 fun t40 H =>
  pEql t40 (.str [109, 97, 105, 110]) H fun t41 H =>
  onBool t41 (pO (aNil t6) H fun t44 H =>
  pFa 4 t44 H fun t45 H =>
  pFa 5 t45 H fun t46 H =>
  stK 1 H t46 t34 fun _ H =>
  S12_7 call q0 t2 t6 t34 t9 t32 t33 t34 H) (S12_7 call q0 t2 t6 t34 t9 t32 t33 t34 H)) (S12_5 call t2 t6 H)) n
noncomputable def S12_8 (call : CallFn) (t0 : AV) (H : AHeap) : R :=
  pBox t0 H fun t1 H =>
  pNew [.nilsl, .nilsl, .nilsl, .nilsl, .nilsl, (.int .i64 (.ofNat 0))] H fun t2 H =>
  ldK (.some 4) H t1 fun t11 H =>
  pC call 11 [t11] H fun t12 H =>
  pExt t12 0 H fun _ H =>
  pExt t12 1 H fun t14 H =>
  pNeq t14 (.int .i64 (.ofNat 0)) H fun t16 H =>
  onBool t16 (pO (someAgg (aFill [.nilsl, .nilsl, .nilsl, .nilsl, .nilsl, (.int .i64 (.ofNat 0))] [])) H fun t17 H =>
  stK 6 H t2 t17 fun _ H =>
  ob (allM (fun o => o) [aLoad (.some 6) H t2, some (.int .i64 (.ofNat 7))]) fun vs => some (resV vs, H)) (ldK (.some 4) H t1 fun t18 H =>
  pO (someAgg (aFill [(.str []), (.str []), (.int .i64 (.ofNat 0)), .nilsl, .nilsl, .nilsl, .nilsl, .nilsl, .nilsl, (.int .i64 (.ofNat 0)), (.bool false)] [(0, 4, t18)])) H fun t19 H =>
  pBox t19 H fun t20 H =>
  pC call 27 [t20] H fun _ H =>
  pC call 28 [t20, (.str [102, 117, 110, 99])] H fun t24 H =>
  pO (aLen .sl H t24) H fun t27 H =>
  pN (aMksl 7 104 [(.int .i64 (.ofNat 0)), (.int .i64 (.ofNat 0)), (.int .i64 (.ofNat 0)), (.int .i64 (.ofNat 0)), .nilsl, .nilsl, .nilsl] t27 t27) H fun t28 H =>
  pO (aNil t20) H fun t29 H =>
  pFa 4 t29 H fun t30 H =>
  pFa 4 t30 H fun t31 H =>
  stK 1 H t31 t28 fun _ H =>
  pO (aLen .sl H t24) H fun t33 H =>
  S12_6 call 1000000 t2 t20 t24 t33 (.int .i64 (.ofNat 0)) H)
noncomputable def S12 : Ff := ⟨fun call l H => argA1 (fun t0 => S12_8 call t0 H) l⟩
/- gantline/emit.Emit -/
noncomputable def S13_0 (call : CallFn) (t0 : AV) (H : AHeap) : R :=
  pBox t0 H fun t1 H =>
  pNew [.nilsl, .nilsl, .nilsl, .nilsl, .nilsl, (.int .i64 (.ofNat 0))] H fun t2 H =>
  ldK (.some 6) H t1 fun t4 H =>
  pC call 30 [t4] H fun t5 H =>
  pO (aUn .not t5) H fun t6 H =>
  onBool t6 (pO (someAgg (aFill [.nilsl, .nilsl, .nilsl, .nilsl, .nilsl, (.int .i64 (.ofNat 0))] [])) H fun t7 H =>
  stK 6 H t2 t7 fun _ H =>
  ob (allM (fun o => o) [aLoad (.some 6) H t2, some (.int .i64 (.ofNat 8))]) fun vs => some (resV vs, H)) (ldK (.some 6) H t1 fun t8 H =>
  pC call 31 [t8] H fun t9 H =>
  stK 6 H t1 t9 fun _ H =>
  pFa 4 t1 H fun t10 H =>
  ldK .none H t10 fun t11 H =>
  pC call 32 [t11, (.fn 33 [] [])] H fun t12 H =>
  onBool t12 (pO (someAgg (aFill [.nilsl, .nilsl, .nilsl, .nilsl, .nilsl, (.int .i64 (.ofNat 0))] [])) H fun t13 H =>
  stK 6 H t2 t13 fun _ H =>
  ob (allM (fun o => o) [aLoad (.some 6) H t2, some (.int .i64 (.ofNat 2))]) fun vs => some (resV vs, H)) (ldK (.some 6) H t1 fun t14 H =>
  pC call 35 [t14] H fun t15 H =>
  pC call 34 [t15] H fun t16 H =>
  stK 6 H t2 t16 fun _ H =>
  ob (allM (fun o => o) [aLoad (.some 6) H t2, some (.int .i64 (.ofNat 0))]) fun vs => some (resV vs, H)))
noncomputable def S13 : Ff := ⟨fun call l H => argA1 (fun t0 => S13_0 call t0 H) l⟩
/- gantline/code.Encode -/
noncomputable def S14_0 (call : CallFn) (t1 t3 : AV) (H : AHeap) : R :=
  pFa 5 t1 H fun t105 H =>
  ldK .none H t105 fun t106 H =>
  pN (aBsl 1 1 [(.int .i64 (.ofNat 0))] [(0, 1, t106)]) H fun t107 H =>
  pC call 38 [t3, t107] H fun _ H =>
  pO (aNil t3) H fun t110 H =>
  pFa 0 t110 H fun t111 H =>
  ldK .none H t111 fun t112 H =>
  some (t112, H)
noncomputable def S14_1 (call : CallFn) (n : Nat) : AV → AV → AV → AV → AV → AHeap → R :=
  Nat.rec (motive := fun _ => AV → AV → AV → AV → AV → AHeap → R) (fun _ _ _ _ _ _ => none) (fun _ q0 t1 t3 t94 t95 t96 H => pLss t96 t95 H fun t97 H =>
  onBool t97 (pIa 7 t94 t96 H fun t98 H =>
  ldK (.some 7) H t98 fun t99 H =>
  pNew [(.int .i64 (.ofNat 0)), (.int .i64 (.ofNat 0)), (.int .i64 (.ofNat 0)), (.int .i64 (.ofNat 0)), .nilsl, .nilsl, .nilsl] H fun t11 H =>
  stK 7 H t11 t99 fun _ H =>
  ldK (.some 7) H t11 fun t101 H =>
  pC call 41 [t3, t101] H fun _ H =>
  pAdd t96 (.int .i64 (.ofNat 1)) H fun t103 H =>
  q0 t1 t3 t94 t95 t103 H) (S14_0 call t1 t3 H)) n
noncomputable def S14_2 (call : CallFn) (t1 t3 : AV) (H : AHeap) : R :=
  pFa 4 t1 H fun t88 H =>
  ldK .none H t88 fun t89 H =>
  pO (aLen .sl H t89) H fun t90 H =>
  pConv .u64 t90 H fun t91 H =>
  pC call 37 [t3, t91] H fun _ H =>
  pFa 4 t1 H fun t93 H =>
  ldK .none H t93 fun t94 H =>
  pO (aLen .sl H t94) H fun t95 H =>
  S14_1 call 1000000 t1 t3 t94 t95 (.int .i64 (.ofNat 0)) H
noncomputable def S14_3 (call : CallFn) (n : Nat) : AV → AV → AV → AV → AV → AHeap → R :=
  Nat.rec (motive := fun _ => AV → AV → AV → AV → AV → AHeap → R) (fun _ _ _ _ _ _ => none) (fun _ q1 t1 t3 t69 t70 t71 H => pLss t71 t70 H fun t72 H =>
  onBool t72 (pIa 4 t69 t71 H fun t73 H =>
  ldK (.some 4) H t73 fun t74 H =>
  pNew [(.int .i64 (.ofNat 0)), (.int .i64 (.ofNat 0)), (.int .i64 (.ofNat 0)), (.int .i64 (.ofNat 0))] H fun t9 H =>
  stK 4 H t9 t74 fun _ H =>
  pFa 0 t9 H fun t76 H =>
  ldK .none H t76 fun t77 H =>
  pFa 1 t9 H fun t78 H =>
  ldK .none H t78 fun t79 H =>
  pFa 2 t9 H fun t80 H =>
  ldK .none H t80 fun t81 H =>
  pFa 3 t9 H fun t82 H =>
  ldK .none H t82 fun t83 H =>
  pN (aBsl 1 4 [(.int .i64 (.ofNat 0))] [(0, 1, t77), (1, 1, t79), (2, 1, t81), (3, 1, t83)]) H fun t84 H =>
  pC call 38 [t3, t84] H fun _ H =>
  pAdd t71 (.int .i64 (.ofNat 1)) H fun t86 H =>
  q1 t1 t3 t69 t70 t86 H) (S14_2 call t1 t3 H)) n
noncomputable def S14_4 (call : CallFn) (t1 t3 : AV) (H : AHeap) : R :=
  pFa 3 t1 H fun t63 H =>
  ldK .none H t63 fun t64 H =>
  pO (aLen .sl H t64) H fun t65 H =>
  pConv .u64 t65 H fun t66 H =>
  pC call 37 [t3, t66] H fun _ H =>
  pFa 3 t1 H fun t68 H =>
  ldK .none H t68 fun t69 H =>
  pO (aLen .sl H t69) H fun t70 H =>
  S14_3 call 1000000 t1 t3 t69 t70 (.int .i64 (.ofNat 0)) H
noncomputable def S14_5 (call : CallFn) (n : Nat) : AV → AV → AV → AV → AV → AHeap → R :=
  Nat.rec (motive := fun _ => AV → AV → AV → AV → AV → AHeap → R) (fun _ _ _ _ _ _ => none) (fun _ q2 t1 t3 t51 t52 t53 H => pLss t53 t52 H fun t54 H =>
  onBool t54 (pIa 1 t51 t53 H fun t55 H =>
  ldK .none H t55 fun t56 H =>
  pC call 40 [t56] H fun t59 H =>
  pC call 37 [t3, t59] H fun _ H =>
  pAdd t53 (.int .i64 (.ofNat 1)) H fun t61 H =>
  q2 t1 t3 t51 t52 t61 H) (S14_4 call t1 t3 H)) n
noncomputable def S14_6 (call : CallFn) (t1 t3 : AV) (H : AHeap) : R :=
  pFa 1 t1 H fun t41 H =>
  ldK .none H t41 fun t42 H =>
  pC call 39 [t3, t42] H fun _ H =>
  pFa 2 t1 H fun t45 H =>
  ldK .none H t45 fun t46 H =>
  pO (aLen .sl H t46) H fun t47 H =>
  pConv .u64 t47 H fun t48 H =>
  pC call 37 [t3, t48] H fun _ H =>
  pFa 2 t1 H fun t50 H =>
  ldK .none H t50 fun t51 H =>
  pO (aLen .sl H t51) H fun t52 H =>
  S14_5 call 1000000 t1 t3 t51 t52 (.int .i64 (.ofNat 0)) H
noncomputable def S14_7 (call : CallFn) (n : Nat) : AV → AV → AV → AV → AV → AHeap → R :=
  Nat.rec (motive := fun _ => AV → AV → AV → AV → AV → AHeap → R) (fun _ _ _ _ _ _ => none) (fun _ q3 t1 t3 t22 t23 t24 H => pLss t24 t23 H fun t25 H =>
  onBool t25 (pIa 3 t22 t24 H fun t26 H =>
  ldK (.some 3) H t26 fun t27 H =>
  pNew [(.int .i64 (.ofNat 0)), (.int .i64 (.ofNat 0)), (.int .u64 (.ofNat 0))] H fun t5 H =>
  stK 3 H t5 t27 fun _ H =>
  pFa 0 t5 H fun t29 H =>
  ldK .none H t29 fun t30 H =>
  pFa 1 t5 H fun t31 H =>
  ldK .none H t31 fun t32 H =>
  pN (aBsl 1 2 [(.int .i64 (.ofNat 0))] [(0, 1, t30), (1, 1, t32)]) H fun t33 H =>
  pC call 38 [t3, t33] H fun _ H =>
  pFa 2 t5 H fun t36 H =>
  ldK .none H t36 fun t37 H =>
  pC call 37 [t3, t37] H fun _ H =>
  pAdd t24 (.int .i64 (.ofNat 1)) H fun t39 H =>
  q3 t1 t3 t22 t23 t39 H) (S14_6 call t1 t3 H)) n
noncomputable def S14_8 (call : CallFn) (t0 : AV) (H : AHeap) : R :=
  pBox t0 H fun t1 H =>
  pC call 36 [] H fun t12 H =>
  pO (someAgg (aFill [.nilsl] [(0, 1, t12)])) H fun t13 H =>
  pBox t13 H fun t14 H =>
  pFa 0 t1 H fun t16 H =>
  ldK .none H t16 fun t17 H =>
  pO (aLen .sl H t17) H fun t18 H =>
  pConv .u64 t18 H fun t19 H =>
  pC call 37 [t14, t19] H fun _ H =>
  pFa 0 t1 H fun t21 H =>
  ldK .none H t21 fun t22 H =>
  pO (aLen .sl H t22) H fun t23 H =>
  S14_7 call 1000000 t1 t14 t22 t23 (.int .i64 (.ofNat 0)) H
noncomputable def S14 : Ff := ⟨fun call l H => argA1 (fun t0 => S14_8 call t0 H) l⟩
/- gantline/vm.New -/
noncomputable def S15_0 (call : CallFn) (t0 t1 : AV) (H : AHeap) : R :=
  pBox t0 H fun t2 H =>
  ldK (.some 6) H t2 fun t9 H =>
  pC call 8 [t9] H fun t10 H =>
  pO (aUn .not t10) H fun t11 H =>
  onBool t11 (some (.tup [.nilp, (.int .i64 (.ofNat 8))], H)) (pFa 0 t2 H fun t14 H =>
  ldK .none H t14 fun t15 H =>
  pC call 42 [t1, t15] H fun t16 H =>
  pExt t16 0 H fun t17 H =>
  pExt t16 1 H fun t18 H =>
  pNeq t18 (.int .i64 (.ofNat 0)) H fun t20 H =>
  onBool t20 (some (.tup [.nilp, t18], H)) (ldK (.some 6) H t2 fun t22 H =>
  pC call 43 [t22] H fun t23 H =>
  stK 6 H t2 t23 fun _ H =>
  ldK (.some 6) H t2 fun t24 H =>
  ldK (.some 6) H t2 fun t26 H =>
  pFa 1 t2 H fun t28 H =>
  ldK .none H t28 fun t29 H =>
  pO (aLen .sl H t29) H fun t30 H =>
  pN (aMksl 1 8 [(.int .i64 (.ofNat 0))] t30 t30) H fun t31 H =>
  pC call 44 [t26] H fun t27 H =>
  andR (andB (ckV (aLoad (.some 6) H t2) t24) (andB (ckV (aLoad .none H t28) t29) (andB (ckV (aLen .sl H t29) t30) true))) (
  pO (someAgg (aFill [.nilsl, .nilsl, .nilsl, .nilsl, .nilsl, (.int .i64 (.ofNat 0)), .nilp, .nilp, .nilsl, .nilsl, .nilsl, (.int .i64 (.ofNat 0)), (.int .i64 (.ofNat 0))] [(0, 6, t24), (6, 1, t17), (7, 1, t27), (8, 1, t31)])) H fun t32 H =>
  pBox t32 H fun t33 H =>
  pO (aNil t33) H fun t35 H =>
  pFa 7 t35 H fun t36 H =>
  ldK .none H t36 fun t37 H =>
  pFa 5 t2 H fun t38 H =>
  ldK .none H t38 fun t39 H =>
  pC call 45 [t37, t39, .nilsl] H fun _ H =>
  pC call 46 [t33] H fun _ H =>
  some (.tup [t33, (.int .i64 (.ofNat 0))], H))))
noncomputable def S15 : Ff := ⟨fun call l H => argA2 (fun t0 t1 => S15_0 call t0 t1 H) l⟩
/- gantline/run.One -/
noncomputable def S16_0 (call : CallFn) (t0 t1 : AV) (H : AHeap) : R :=
  pC call 48 [t0] H fun t25 H =>
  pO (aLen .sl H t25) H fun t28 H =>
  pAdd t28 (.int .i64 (.ofNat 1)) H fun t29 H =>
  pO (aBin .rem t1 t29) H fun t30 H =>
  pO (aLen .sl H t25) H fun t33 H =>
  pEql t30 t33 H fun t34 H =>
  onBool t34 (pC call 49 [t0] H fun t36 H =>
  some (t36, H)) (pIa 1 t25 t30 H fun t40 H =>
  ldK .none H t40 fun t41 H =>
  pO (aLen .sl H t25) H fun t44 H =>
  pAdd t44 (.int .i64 (.ofNat 1)) H fun t45 H =>
  pO (aBin .quo t1 t45) H fun t46 H =>
  pIa 1 t25 t30 H fun t50 H =>
  ldK .none H t50 fun t51 H =>
  pC call 51 [t0, t51] H fun t52 H =>
  andR (andB (ckV (aLoad .none H t40) t41) (andB (ckV (aLen .sl H t25) t44) true)) (
  pO (aBin .rem t46 t52) H fun t53 H =>
  pC call 50 [t0, t41, t53] H fun t54 H =>
  some (t54, H)))
noncomputable def S16_1 (call : CallFn) (t0 t1 : AV) (H : AHeap) : R :=
  pC call 47 [t0] H fun t11 H =>
  pExt t11 0 H fun t12 H =>
  pExt t11 1 H fun _ H =>
  pNeq t12 (.int .i64 (.ofNat 0)) H fun t15 H =>
  onBool t15 (some ((.bool false), H)) (pEql t1 (.int .i64 (.negSucc 9223372036854775807)) H fun t18 H =>
  onBool t18 (S16_0 call t0 (.int .i64 (.ofNat 0)) H) (pLss t1 (.int .i64 (.ofNat 0)) H fun t21 H =>
  onBool t21 (pO (aUn .neg t1) H fun t23 H =>
  S16_0 call t0 t23 H) (S16_0 call t0 t1 H)))
noncomputable def S16 : Ff := ⟨fun call l H => argA2 (fun t0 t1 => S16_1 call t0 t1 H) l⟩
/- gantline/run.Told -/
noncomputable def S17_0 (call : CallFn) (t0 t1 : AV) (H : AHeap) : R :=
  pNew [.nilsl, (.int .i64 (.ofNat 0)), (.int .i64 (.ofNat 0)), (.int .i64 (.ofNat 0)), (.int .i64 (.ofNat 0)), (.int .i64 (.ofNat 0)), .nilsl] H fun t4 H =>
  pC call 47 [t0] H fun t9 H =>
  pExt t9 0 H fun t10 H =>
  pExt t9 1 H fun t11 H =>
  pC call 52 [t0] H fun t13 H =>
  pC call 53 [t0] H fun t18 H =>
  pC call 54 [t18] H fun t19 H =>
  pC call 55 [t19] H fun t20 H =>
  pC call 53 [t0] H fun t22 H =>
  pC call 56 [t22] H fun t23 H =>
  pC call 57 [t0] H fun t25 H =>
  pO (someAgg (aFill [.nilsl, (.int .i64 (.ofNat 0)), (.int .i64 (.ofNat 0)), (.int .i64 (.ofNat 0)), (.int .i64 (.ofNat 0)), (.int .i64 (.ofNat 0)), .nilsl] [(0, 1, t13), (1, 1, t10), (2, 1, t11), (3, 1, t1), (4, 1, t20), (5, 1, t23), (6, 1, t25)])) H fun t26 H =>
  stK 7 H t4 t26 fun _ H =>
  ob (allM (fun o => o) [aLoad (.some 7) H t4]) fun vs => some (resV vs, H)
noncomputable def S17 : Ff := ⟨fun call l H => argA2 (fun t0 t1 => S17_0 call t0 t1 H) l⟩
/- gantline/verify.Check -/
noncomputable def S18_0 (call : CallFn) (t0 : AV) (H : AHeap) : R :=
  pBox t0 H fun t1 H =>
  pNew [(.int .i64 (.ofNat 0)), (.int .i64 (.ofNat 0)), (.int .i64 (.ofNat 0))] H fun t2 H =>
  ldK (.some 6) H t1 fun t4 H =>
  pC call 58 [t4, .nilsl] H fun t5 H =>
  pExt t5 0 H fun t6 H =>
  pExt t5 1 H fun t7 H =>
  stK 3 H t2 t6 fun _ H =>
  ob (allM (fun o => o) [aLoad (.some 3) H t2, some t7]) fun vs => some (resV vs, H)
noncomputable def S18 : Ff := ⟨fun call l H => argA1 (fun t0 => S18_0 call t0 H) l⟩
/- gantline/lex.Cut -/
noncomputable def S19_0 (_ : CallFn) (t0 t5 : AV) (H : AHeap) : R :=
  pO (aLen .str H t0) H fun t44 H =>
  pO (someAgg (aFill [(.int .i64 (.ofNat 0)), (.str []), (.int .i64 (.ofNat 0))] [(2, 1, t44)])) H fun t45 H =>
  pN (aBsl 3 1 [(.int .i64 (.ofNat 0)), (.str []), (.int .i64 (.ofNat 0))] [(0, 3, t45)]) H fun t46 H =>
  pW (aApp 3 32 H t5 t46) fun t47 H =>
  some (.tup [t47, (.int .i64 (.ofNat 0)), (.int .i64 (.ofNat 0))], H)
noncomputable def S19_1 (call : CallFn) (n : Nat) : AV → AV → AV → AHeap → R :=
  Nat.rec (motive := fun _ => AV → AV → AV → AHeap → R) (fun _ _ _ _ => none) (fun _ q0 t0 t5 t6 H => pO (aLen .str H t0) H fun t15 H =>
  pLss t6 t15 H fun t16 H =>
  onBool t16 (pO (aSliceS t0 (.some t6) .none) H fun t25 H =>
  pC call 60 [t25] H fun t26 H =>
  pNew [(.int .i64 (.ofNat 0)), (.str []), (.int .i64 (.ofNat 0))] H fun t7 H =>
  stK 3 H t7 t26 fun _ H =>
  pFa 0 t7 H fun t27 H =>
  ldK .none H t27 fun t28 H =>
  pEql t28 (.int .i64 (.ofNat 0)) H fun t29 H =>
  onBool t29 (some (.tup [.nilsl, t6, (.int .i64 (.ofNat 6))], H)) (pFa 2 t7 H fun t32 H =>
  stK 1 H t32 t6 fun _ H =>
  ldK (.some 3) H t7 fun t34 H =>
  pN (aBsl 3 1 [(.int .i64 (.ofNat 0)), (.str []), (.int .i64 (.ofNat 0))] [(0, 3, t34)]) H fun t35 H =>
  pW (aApp 3 32 H t5 t35) fun t36 H =>
  pFa 1 t7 H fun t38 H =>
  ldK .none H t38 fun t39 H =>
  pO (aLen .str H t39) H fun t40 H =>
  pAdd t6 t40 H fun t41 H =>
  pO (aSliceS t0 (.some t41) .none) H fun t20 H =>
  pC call 59 [t20] H fun t21 H =>
  pAdd t41 t21 H fun t22 H =>
  q0 t0 t36 t22 H)) (S19_0 call t0 t5 H)) n
noncomputable def S19_2 (call : CallFn) (t0 : AV) (H : AHeap) : R :=
  pO (aLen .str H t0) H fun t9 H =>
  pGtr t9 (.int .i64 (.ofNat 16384)) H fun t10 H =>
  onBool t10 (some (.tup [.nilsl, (.int .i64 (.ofNat 0)), (.int .i64 (.ofNat 2))], H)) (pC call 59 [t0] H fun t12 H =>
  S19_1 call 1000000 t0 .nilsl t12 H)
noncomputable def S19 : Ff := ⟨fun call l H => argA1 (fun t0 => S19_2 call t0 H) l⟩
/- (*gantline/parse.parser).program -/
noncomputable def S20_0 (_ : CallFn) (t2 t3 : AV) (H : AHeap) : R :=
  ldK (.some 4) H t3 fun t24 H =>
  stK 4 H t2 t24 fun _ H =>
  ob (allM (fun o => o) [aLoad (.some 4) H t2]) fun vs => some (resV vs, H)
noncomputable def S20_2 (call : CallFn) (q0 : AV → AV → AV → AHeap → R) (t0 t2 t3 t11 t15 : AV) (H : AHeap) : R :=
  pPick t11 t15 (.bool false) H fun t16 H =>
  onBool t16 (pFa 3 t3 H fun t17 H =>
  ldK .none H t17 fun t18 H =>
  pC call 63 [t0] H fun t20 H =>
  andR (andB (ckV (aLoad .none H t17) t18) true) (
  pN (aBsl 4 1 [(.str []), (.str []), (.int .i64 (.ofNat 0)), .nilsl] [(0, 4, t20)]) H fun t21 H =>
  pW (aApp 4 64 H t18 t21) fun t22 H =>
  pFa 3 t3 H fun t23 H =>
  stK 1 H t23 t22 fun _ H =>
  q0 t0 t2 t3 H)) (S20_0 call t2 t3 H)
noncomputable def S20_1 (call : CallFn) (n : Nat) : AV → AV → AV → AHeap → R :=
  Nat.rec (motive := fun _ => AV → AV → AV → AHeap → R) (fun _ _ _ _ => none) (fun _ q0 t0 t2 t3 H => pO (aNil t0) H fun t7 H =>
  pFa 3 t7 H fun t8 H =>
  ldK .none H t8 fun t9 H =>
  pEql t9 (.int .i64 (.ofNat 0)) H fun t10 H =>
  guardA t10 true (pC call 62 [t0] H fun t13 H =>
  pO (aFld 0 .none t13) H fun t14 H =>
  pNeq t14 (.int .i64 (.ofNat 0)) H fun t15 H =>
  S20_2 call q0 t0 t2 t3 t10 t15 H) (S20_2 call q0 t0 t2 t3 t10 U H)) n
noncomputable def S20_3 (call : CallFn) (t0 : AV) (H : AHeap) : R :=
  pNew [(.str []), (.str []), (.int .i64 (.ofNat 0)), .nilsl] H fun t2 H =>
  pC call 61 [t0, (.str [112, 114, 111, 103, 114, 97, 109])] H fun t5 H =>
  pNew [(.str []), (.str []), (.int .i64 (.ofNat 0)), .nilsl] H fun t3 H =>
  stK 4 H t3 t5 fun _ H =>
  S20_1 call 1000000 t0 t2 t3 H
noncomputable def S20 : Ff := ⟨fun call l H => argA1 (fun t0 => S20_3 call t0 H) l⟩
/- gantline/check.whole -/
noncomputable def S21_0 (_ : CallFn) (t5 t9 : AV) (H : AHeap) : R :=
  pPick t5 t9 (.bool false) H fun t10 H =>
  some (t10, H)
noncomputable def S21_1 (call : CallFn) (t0 : AV) (H : AHeap) : R :=
  pBox t0 H fun t1 H =>
  ldK (.some 4) H t1 fun t3 H =>
  pC call 64 [t3] H fun t4 H =>
  guardA t4 true (pFa 3 t1 H fun t6 H =>
  ldK .none H t6 fun t7 H =>
  pC call 65 [t7, (.fn 66 [] [])] H fun t8 H =>
  pO (aUn .not t8) H fun t9 H =>
  S21_0 call t4 t9 H) (S21_0 call t4 U H)
noncomputable def S21 : Ff := ⟨fun call l H => argA1 (fun t0 => S21_1 call t0 H) l⟩
/- (*gantline/check.checker).once -/
noncomputable def S22_0 (call : CallFn) (n : Nat) : AV → AV → AV → AV → AV → AHeap → R :=
  Nat.rec (motive := fun _ => AV → AV → AV → AV → AV → AHeap → R) (fun _ _ _ _ _ _ => none) (fun _ q0 t0 t4 t8 t9 t10 H => pLss t10 t9 H fun t11 H =>
  onBool t11 (pIa 4 t8 t10 H fun t12 H =>
  ldK (.some 4) H t12 fun t13 H =>
  pNew [(.str []), (.str []), (.int .i64 (.ofNat 0)), .nilsl] H fun t6 H =>
  stK 4 H t6 t13 fun _ H =>
  pFa 1 t6 H fun t16 H =>
  ldK .none H t16 fun t17 H =>
  pO (aLook .str (.bool false) false H t4 t17) H fun t18 H =>
  pO (aUn .not t18) H fun t19 H =>
  ldK (.some 4) H t6 fun t20 H =>
  pC call 25 [t0, t19, t20] H fun _ H =>
  pFa 1 t6 H fun t23 H =>
  ldK .none H t23 fun t24 H =>
  pW (unitW (aMapUp .str H t4 t24 (.bool true))) fun _ H =>
  pAdd t10 (.int .i64 (.ofNat 1)) H fun t25 H =>
  q0 t0 t4 t8 t9 t25 H) (some (.tup [], H))) n
noncomputable def S22_1 (call : CallFn) (t0 t1 : AV) (H : AHeap) : R :=
  pMap H fun t7 H =>
  pO (aLen .sl H t1) H fun t9 H =>
  S22_0 call 1000000 t0 t7 t1 t9 (.int .i64 (.ofNat 0)) H
noncomputable def S22 : Ff := ⟨fun call l H => argA2 (fun t0 t1 => S22_1 call t0 t1 H) l⟩
/- (*gantline/check.checker).named -/
noncomputable def S23_0 (call : CallFn) (n : Nat) : AV → AV → AV → AV → AHeap → R :=
  Nat.rec (motive := fun _ => AV → AV → AV → AV → AHeap → R) (fun _ _ _ _ _ => none) (fun _ q0 t0 t23 t24 t25 H => pLss t25 t24 H fun t26 H =>
  onBool t26 (pIa 4 t23 t25 H fun t27 H =>
  ldK (.some 4) H t27 fun t28 H =>
  pNew [(.str []), (.str []), (.int .i64 (.ofNat 0)), .nilsl] H fun t7 H =>
  stK 4 H t7 t28 fun _ H =>
  ldK (.some 4) H t7 fun t30 H =>
  pC call 23 [t0, t30] H fun _ H =>
  pAdd t25 (.int .i64 (.ofNat 1)) H fun t32 H =>
  q0 t0 t23 t24 t32 H) (some (.tup [], H))) n
noncomputable def S23_1 (call : CallFn) (t0 t3 : AV) (H : AHeap) : R :=
  pFa 3 t3 H fun t22 H =>
  ldK .none H t22 fun t23 H =>
  pO (aLen .sl H t23) H fun t24 H =>
  S23_0 call 1000000 t0 t23 t24 (.int .i64 (.ofNat 0)) H
noncomputable def S23_2 (call : CallFn) (t0 t1 : AV) (H : AHeap) : R :=
  pBox t1 H fun t3 H =>
  pFa 0 t3 H fun t8 H =>
  ldK .none H t8 fun t9 H =>
  pEql t9 (.str [110, 97, 109, 101, 100]) H fun t10 H =>
  onBool t10 (pFa 1 t3 H fun t13 H =>
  ldK .none H t13 fun t14 H =>
  pC call 24 [t0, (.str [115, 116, 114, 117, 99, 116]), t14] H fun t15 H =>
  pExt t15 0 H fun t16 H =>
  pExt t15 1 H fun t17 H =>
  pNew [(.str []), (.str []), (.int .i64 (.ofNat 0)), .nilsl] H fun t4 H =>
  stK 4 H t4 t16 fun _ H =>
  ldK (.some 4) H t3 fun t20 H =>
  pC call 25 [t0, t17, t20] H fun _ H =>
  S23_1 call t0 t3 H) (S23_1 call t0 t3 H)
noncomputable def S23 : Ff := ⟨fun call l H => argA2 (fun t0 t1 => S23_2 call t0 t1 H) l⟩
/- (*gantline/check.checker).decl -/
noncomputable def S24_0 (call : CallFn) (t0 t1 t2 : AV) (H : AHeap) : R :=
  pBox t1 H fun t4 H =>
  pBox t2 H fun t5 H =>
  pNew [(.str []), (.str []), (.int .i64 (.ofNat 0)), .nilsl] H fun t6 H =>
  pO (aNil t0) H fun t10 H =>
  pFa 0 t10 H fun t11 H =>
  pFa 3 t11 H fun t12 H =>
  ldK .none H t12 fun t13 H =>
  pC call 67 [t13, (.fn 68 [] [t4, t5])] H fun t15 H =>
  pLss t15 (.int .i64 (.ofNat 0)) H fun t17 H =>
  onBool t17 (pO (someAgg (aFill [(.str []), (.str []), (.int .i64 (.ofNat 0)), .nilsl] [])) H fun t18 H =>
  stK 4 H t6 t18 fun _ H =>
  ob (allM (fun o => o) [aLoad (.some 4) H t6, some (.bool false)]) fun vs => some (resV vs, H)) (pO (aNil t0) H fun t20 H =>
  pFa 0 t20 H fun t21 H =>
  pFa 3 t21 H fun t22 H =>
  ldK .none H t22 fun t23 H =>
  pIa 4 t23 t15 H fun t25 H =>
  ldK (.some 4) H t25 fun t26 H =>
  stK 4 H t6 t26 fun _ H =>
  ob (allM (fun o => o) [aLoad (.some 4) H t6, some (.bool true)]) fun vs => some (resV vs, H))
noncomputable def S24 : Ff := ⟨fun call l H => argA3 (fun t0 t1 t2 => S24_0 call t0 t1 t2 H) l⟩
/- (*gantline/check.checker).must -/
noncomputable def S25_0 (call : CallFn) (t0 t1 t2 : AV) (H : AHeap) : R :=
  pBox t2 H fun t5 H =>
  pO (aUn .not t1) H fun t7 H =>
  onBool t7 (pFa 2 t5 H fun t9 H =>
  ldK .none H t9 fun t10 H =>
  pC call 69 [t0, t10] H fun _ H =>
  some (.tup [], H)) (some (.tup [], H))
noncomputable def S25 : Ff := ⟨fun call l H => argA3 (fun t0 t1 t2 => S25_0 call t0 t1 t2 H) l⟩
/- (*gantline/check.checker).fn -/
noncomputable def S26_0 (call : CallFn) (t0 t3 t4 t87 t94 t99 t101 : AV) (H : AHeap) : R :=
  andR (andB (ckV (aLoad (.some 4) H t3) t101) true) (
  pPick t94 (.bool true) t99 H fun t100 H =>
  pC call 25 [t87, t100, t101] H fun _ H =>
  ldK (.some 4) H t4 fun t104 H =>
  pO (aNil t0) H fun t105 H =>
  pFa 8 t105 H fun t106 H =>
  stK 4 H t106 t104 fun _ H =>
  some (.tup [], H))
noncomputable def S26_1 (call : CallFn) (t0 t3 t4 t87 t94 t98 : AV) (H : AHeap) : R :=
  ldK (.some 4) H t3 fun t101 H =>
  guardA t94 false (pC call 72 [t98] H fun t99 H =>
  S26_0 call t0 t3 t4 t87 t94 t99 t101 H) (S26_0 call t0 t3 t4 t87 t94 U t101 H)
noncomputable def S26_2 (call : CallFn) (t0 t3 t4 t87 t94 t97 : AV) (H : AHeap) : R :=
  guardA t94 false (ldK (.some 4) H t97 fun t98 H =>
  S26_1 call t0 t3 t4 t87 t94 t98 H) (S26_1 call t0 t3 t4 t87 t94 U H)
noncomputable def S26_3 (call : CallFn) (t0 t3 t4 t87 t94 t96 : AV) (H : AHeap) : R :=
  guardA t94 false (pIa 4 t96 (.int .i64 (.ofNat 2)) H fun t97 H =>
  S26_2 call t0 t3 t4 t87 t94 t97 H) (S26_2 call t0 t3 t4 t87 t94 U H)
noncomputable def S26_4 (call : CallFn) (t0 t3 t4 t87 t94 t95 : AV) (H : AHeap) : R :=
  guardA t94 false (ldK .none H t95 fun t96 H =>
  S26_3 call t0 t3 t4 t87 t94 t96 H) (S26_3 call t0 t3 t4 t87 t94 U H)
noncomputable def S26_5 (call : CallFn) (t0 t3 t4 : AV) (H : AHeap) : R :=
  pFa 3 t3 H fun t61 H =>
  ldK .none H t61 fun t62 H =>
  pIa 4 t62 (.int .i64 (.ofNat 2)) H fun t63 H =>
  ldK (.some 4) H t63 fun t64 H =>
  pC call 71 [t0, t64] H fun _ H =>
  pO (aNil t0) H fun t68 H =>
  pFa 6 t68 H fun t69 H =>
  ldK .none H t69 fun t70 H =>
  pO (aNil t0) H fun t72 H =>
  pFa 6 t72 H fun t73 H =>
  ldK .none H t73 fun t74 H =>
  pO (aLen .sl H t74) H fun t75 H =>
  pSub t75 (.int .i64 (.ofNat 1)) H fun t76 H =>
  pO (aSlice 1 H t70 .none (.some t76) .none) H fun t77 H =>
  pO (aNil t0) H fun t78 H =>
  pFa 6 t78 H fun t79 H =>
  stK 1 H t79 t77 fun _ H =>
  pO (aNil t0) H fun t81 H =>
  pFa 7 t81 H fun t82 H =>
  ldK .none H t82 fun t83 H =>
  pSub t83 (.int .i64 (.ofNat 1)) H fun t84 H =>
  pO (aNil t0) H fun t85 H =>
  pFa 7 t85 H fun t86 H =>
  stK 1 H t86 t84 fun _ H =>
  pO (aNil t0) H fun t89 H =>
  pFa 8 t89 H fun t90 H =>
  pFa 0 t90 H fun t91 H =>
  ldK .none H t91 fun t92 H =>
  pEql t92 (.str [110, 111, 110, 101]) H fun t93 H =>
  guardA t93 false (pFa 3 t3 H fun t95 H =>
  S26_4 call t0 t3 t4 t0 t93 t95 H) (S26_4 call t0 t3 t4 t0 t93 U H)
noncomputable def S26_6 (call : CallFn) (n : Nat) : AV → AV → AV → AV → AV → AV → AHeap → R :=
  Nat.rec (motive := fun _ => AV → AV → AV → AV → AV → AV → AHeap → R) (fun _ _ _ _ _ _ _ => none) (fun _ q0 t0 t3 t4 t45 t46 t47 H => pLss t47 t46 H fun t48 H =>
  onBool t48 (pIa 4 t45 t47 H fun t49 H =>
  ldK (.some 4) H t49 fun t50 H =>
  pNew [(.str []), (.str []), (.int .i64 (.ofNat 0)), .nilsl] H fun t6 H =>
  stK 4 H t6 t50 fun _ H =>
  pFa 1 t6 H fun t52 H =>
  ldK .none H t52 fun t53 H =>
  pFa 3 t6 H fun t54 H =>
  ldK .none H t54 fun t55 H =>
  pIa 4 t55 (.int .i64 (.ofNat 0)) H fun t56 H =>
  ldK (.some 4) H t56 fun t57 H =>
  pC call 70 [t0, t53, t57] H fun _ H =>
  pAdd t47 (.int .i64 (.ofNat 1)) H fun t59 H =>
  q0 t0 t3 t4 t45 t46 t59 H) (S26_5 call t0 t3 t4 H)) n
noncomputable def S26_7 (call : CallFn) (t0 t1 : AV) (H : AHeap) : R :=
  pBox t1 H fun t3 H =>
  pO (aNil t0) H fun t8 H =>
  pFa 8 t8 H fun t9 H =>
  ldK (.some 4) H t9 fun t10 H =>
  pNew [(.str []), (.str []), (.int .i64 (.ofNat 0)), .nilsl] H fun t4 H =>
  stK 4 H t4 t10 fun _ H =>
  pFa 3 t3 H fun t12 H =>
  ldK .none H t12 fun t13 H =>
  pIa 4 t13 (.int .i64 (.ofNat 1)) H fun t14 H =>
  ldK (.some 4) H t14 fun t15 H =>
  pO (aNil t0) H fun t16 H =>
  pFa 8 t16 H fun t17 H =>
  stK 4 H t17 t15 fun _ H =>
  pFa 3 t3 H fun t19 H =>
  ldK .none H t19 fun t20 H =>
  pIa 4 t20 (.int .i64 (.ofNat 0)) H fun t21 H =>
  pFa 3 t21 H fun t22 H =>
  ldK .none H t22 fun t23 H =>
  pC call 22 [t0, t23] H fun _ H =>
  pO (aNil t0) H fun t26 H =>
  pFa 7 t26 H fun t27 H =>
  ldK .none H t27 fun t28 H =>
  pAdd t28 (.int .i64 (.ofNat 1)) H fun t29 H =>
  pO (aNil t0) H fun t30 H =>
  pFa 7 t30 H fun t31 H =>
  stK 1 H t31 t29 fun _ H =>
  pO (aNil t0) H fun t34 H =>
  pFa 6 t34 H fun t35 H =>
  ldK .none H t35 fun t36 H =>
  pN (aBsl 1 1 [.nilsl] [(0, 1, .nilsl)]) H fun t37 H =>
  pW (aApp 1 24 H t36 t37) fun t38 H =>
  pO (aNil t0) H fun t39 H =>
  pFa 6 t39 H fun t40 H =>
  stK 1 H t40 t38 fun _ H =>
  pFa 3 t3 H fun t41 H =>
  ldK .none H t41 fun t42 H =>
  pIa 4 t42 (.int .i64 (.ofNat 0)) H fun t43 H =>
  pFa 3 t43 H fun t44 H =>
  ldK .none H t44 fun t45 H =>
  pO (aLen .sl H t45) H fun t46 H =>
  S26_6 call 1000000 t0 t3 t4 t45 t46 (.int .i64 (.ofNat 0)) H
noncomputable def S26 : Ff := ⟨fun call l H => argA2 (fun t0 t1 => S26_7 call t0 t1 H) l⟩
/- (*gantline/lower.maker).globals -/
noncomputable def S27_1 (_ : CallFn) (q0 : AV → AV → AV → AV → AHeap → R) (t0 t31 t32 t33 t37 t42 t46 : AV) (H : AHeap) : R :=
  pPick t42 (.bool true) t46 H fun t47 H =>
  pO (aNil t37) H fun t48 H =>
  pFa 10 t48 H fun t49 H =>
  stK 1 H t49 t47 fun _ H =>
  pAdd t33 (.int .i64 (.ofNat 1)) H fun t50 H =>
  q0 t0 t31 t32 t50 H
noncomputable def S27_0 (call : CallFn) (n : Nat) : AV → AV → AV → AV → AHeap → R :=
  Nat.rec (motive := fun _ => AV → AV → AV → AV → AHeap → R) (fun _ _ _ _ _ => none) (fun _ q0 t0 t31 t32 t33 H => pLss t33 t32 H fun t34 H =>
  onBool t34 (pIa 4 t31 t33 H fun t35 H =>
  ldK (.some 4) H t35 fun t36 H =>
  pNew [(.str []), (.str []), (.int .i64 (.ofNat 0)), .nilsl] H fun t5 H =>
  stK 4 H t5 t36 fun _ H =>
  pO (aNil t0) H fun t39 H =>
  pFa 10 t39 H fun t40 H =>
  ldK .none H t40 fun t41 H =>
  guardA t41 false (pFa 3 t5 H fun t43 H =>
  ldK .none H t43 fun t44 H =>
  pO (aLen .sl H t44) H fun t45 H =>
  pGtr t45 (.int .i64 (.ofNat 63)) H fun t46 H =>
  S27_1 call q0 t0 t31 t32 t33 t0 t41 t46 H) (S27_1 call q0 t0 t31 t32 t33 t0 t41 U H)) (some (.tup [], H))) n
noncomputable def S27_2 (call : CallFn) (t0 : AV) (H : AHeap) : R :=
  pC call 28 [t0, (.str [115, 116, 114, 117, 99, 116])] H fun t31 H =>
  pO (aLen .sl H t31) H fun t32 H =>
  S27_0 call 1000000 t0 t31 t32 (.int .i64 (.ofNat 0)) H
noncomputable def S27_3 (call : CallFn) (n : Nat) : AV → AV → AV → AV → AHeap → R :=
  Nat.rec (motive := fun _ => AV → AV → AV → AV → AHeap → R) (fun _ _ _ _ _ => none) (fun _ q1 t0 t7 t8 t9 H => pLss t9 t8 H fun t10 H =>
  onBool t10 (pIa 4 t7 t9 H fun t11 H =>
  ldK (.some 4) H t11 fun t12 H =>
  pNew [(.str []), (.str []), (.int .i64 (.ofNat 0)), .nilsl] H fun t3 H =>
  stK 4 H t3 t12 fun _ H =>
  pO (aNil t0) H fun t15 H =>
  pFa 4 t15 H fun t16 H =>
  pFa 1 t16 H fun t17 H =>
  ldK .none H t17 fun t18 H =>
  pFa 3 t3 H fun t19 H =>
  ldK .none H t19 fun t20 H =>
  pIa 4 t20 (.int .i64 (.ofNat 0)) H fun t21 H =>
  ldK (.some 4) H t21 fun t22 H =>
  pC call 73 [t22] H fun t23 H =>
  andR (andB (ckV (aLoad .none H t17) t18) true) (
  pN (aBsl 1 1 [(.bool false)] [(0, 1, t23)]) H fun t24 H =>
  pW (aApp 1 1 H t18 t24) fun t25 H =>
  pO (aNil t0) H fun t26 H =>
  pFa 4 t26 H fun t27 H =>
  pFa 1 t27 H fun t28 H =>
  stK 1 H t28 t25 fun _ H =>
  pAdd t9 (.int .i64 (.ofNat 1)) H fun t29 H =>
  q1 t0 t7 t8 t29 H)) (S27_2 call t0 H)) n
noncomputable def S27_4 (call : CallFn) (t0 : AV) (H : AHeap) : R :=
  pC call 28 [t0, (.str [103, 108, 111, 98, 97, 108])] H fun t7 H =>
  pO (aLen .sl H t7) H fun t8 H =>
  S27_3 call 1000000 t0 t7 t8 (.int .i64 (.ofNat 0)) H
noncomputable def S27 : Ff := ⟨fun call l H => argA1 (fun t0 => S27_4 call t0 H) l⟩
/- (*gantline/lower.maker).decls -/
noncomputable def S28_1 (_ : CallFn) (q0 : AV → AV → AV → AV → AV → AHeap → R) (t1 t5 t12 t13 t14 : AV) (H : AHeap) : R :=
  pAdd t14 (.int .i64 (.ofNat 1)) H fun t26 H =>
  q0 t1 t5 t12 t13 t26 H
noncomputable def S28_0 (call : CallFn) (n : Nat) : AV → AV → AV → AV → AV → AHeap → R :=
  Nat.rec (motive := fun _ => AV → AV → AV → AV → AV → AHeap → R) (fun _ _ _ _ _ _ => none) (fun _ q0 t1 t5 t12 t13 t14 H => pLss t14 t13 H fun t15 H =>
  onBool t15 (pIa 4 t12 t14 H fun t16 H =>
  ldK (.some 4) H t16 fun t17 H =>
  pNew [(.str []), (.str []), (.int .i64 (.ofNat 0)), .nilsl] H fun t7 H =>
  stK 4 H t7 t17 fun _ H =>
  pFa 0 t7 H fun t18 H =>
  ldK .none H t18 fun t19 H =>
  pEql t19 t1 H fun t21 H =>
  onBool t21 (ldK (.some 4) H t7 fun t23 H =>
  pN (aBsl 4 1 [(.str []), (.str []), (.int .i64 (.ofNat 0)), .nilsl] [(0, 4, t23)]) H fun t24 H =>
  pW (aApp 4 64 H t5 t24) fun t25 H =>
  S28_1 call q0 t1 t25 t12 t13 t14 H) (S28_1 call q0 t1 t5 t12 t13 t14 H)) (some (t5, H))) n
noncomputable def S28_2 (call : CallFn) (t0 t1 : AV) (H : AHeap) : R :=
  pO (aNil t0) H fun t9 H =>
  pFa 0 t9 H fun t10 H =>
  pFa 3 t10 H fun t11 H =>
  ldK .none H t11 fun t12 H =>
  pO (aLen .sl H t12) H fun t13 H =>
  S28_0 call 1000000 t1 .nilsl t12 t13 (.int .i64 (.ofNat 0)) H
noncomputable def S28 : Ff := ⟨fun call l H => argA2 (fun t0 t1 => S28_2 call t0 t1 H) l⟩
/- (*gantline/lower.maker).fn -/
noncomputable def S29_0 (call : CallFn) (t8 t131 t132 t133 t134 t135 t137 t138 t139 t140 t141 t144 t145 t146 t150 t154 t155 t158 : AV) (H : AHeap) : R :=
  ldK .none H t158 fun t159 H =>
  pO (aNil t8) H fun t161 H =>
  pFa 4 t161 H fun t162 H =>
  ldK .none H t162 fun t163 H =>
  pO (aLen .sl H t163) H fun t164 H =>
  pN (aMksl 1 8 [(.int .u64 (.ofNat 0))] t164 t164) H fun t165 H =>
  pC call 79 [t150] H fun t151 H =>
  andR (andB (ckV (aLoad .none H t131) t132) (andB (ckV (aLoad .none H t134) t135) (andB (ckV (aLoad .none H t137) t138) (andB (ckV (aLen .sl H t138) t139) (andB (ckV (aLen .sl H t140) t141) (andB (ckV (aLoad .none H t144) t145) (andB (ckV (aLen .sl H t145) t146) (andB (ckV (aLoad .none H t154) t155) (andB (ckV (aLoad .none H t158) t159) (andB (ckV (aLoad .none H t162) t163) (andB (ckV (aLen .sl H t163) t164) true))))))))))) (
  pO (someAgg (aFill [(.int .i64 (.ofNat 0)), (.int .i64 (.ofNat 0)), (.int .i64 (.ofNat 0)), (.int .i64 (.ofNat 0)), .nilsl, .nilsl, .nilsl] [(0, 1, t139), (1, 1, t141), (2, 1, t146), (3, 1, t151), (4, 1, t155), (5, 1, t159), (6, 1, t165)])) H fun t166 H =>
  pIa 7 t132 t133 H fun t167 H =>
  stK 7 H t167 t166 fun _ H =>
  some (.tup [], H))
noncomputable def S29_1 (call : CallFn) (t0 t1 t3 t6 t8 t100 t121 t124 : AV) (H : AHeap) : R :=
  pPick t121 (.bool true) t124 H fun t125 H =>
  pO (aNil t100) H fun t126 H =>
  pFa 10 t126 H fun t127 H =>
  stK 1 H t127 t125 fun _ H =>
  pO (aNil t0) H fun t129 H =>
  pFa 4 t129 H fun t130 H =>
  pFa 4 t130 H fun t131 H =>
  ldK .none H t131 fun t132 H =>
  pFa 3 t6 H fun t134 H =>
  ldK .none H t134 fun t135 H =>
  pIa 4 t135 (.int .i64 (.ofNat 0)) H fun t136 H =>
  pFa 3 t136 H fun t137 H =>
  ldK .none H t137 fun t138 H =>
  pO (aLen .sl H t138) H fun t139 H =>
  pO (aLen .sl H t3) H fun t141 H =>
  pO (aNil t8) H fun t143 H =>
  pFa 2 t143 H fun t144 H =>
  ldK .none H t144 fun t145 H =>
  pO (aLen .sl H t145) H fun t146 H =>
  pFa 3 t6 H fun t147 H =>
  ldK .none H t147 fun t148 H =>
  pIa 4 t148 (.int .i64 (.ofNat 1)) H fun t149 H =>
  ldK (.some 4) H t149 fun t150 H =>
  pO (aNil t8) H fun t153 H =>
  pFa 2 t153 H fun t154 H =>
  ldK .none H t154 fun t155 H =>
  pO (aNil t8) H fun t157 H =>
  pFa 4 t157 H fun t158 H =>
  S29_0 call t8 t131 t132 t1 t134 t135 t137 t138 t139 t3 t141 t144 t145 t146 t150 t154 t155 t158 H
noncomputable def S29_2 (call : CallFn) (t0 t1 t3 t6 t8 t100 t113 t119 : AV) (H : AHeap) : R :=
  pPick t113 (.bool true) t119 H fun t120 H =>
  guardA t120 false (pO (aLen .sl H t3) H fun t123 H =>
  pGtr t123 (.int .i64 (.ofNat 62)) H fun t124 H =>
  S29_1 call t0 t1 t3 t6 t8 t100 t120 t124 H) (S29_1 call t0 t1 t3 t6 t8 t100 t120 U H)
noncomputable def S29_3 (call : CallFn) (t0 t1 t3 t6 t8 t100 t105 t111 : AV) (H : AHeap) : R :=
  pPick t105 (.bool true) t111 H fun t112 H =>
  guardA t112 false (pO (aNil t8) H fun t115 H =>
  pFa 4 t115 H fun t116 H =>
  ldK .none H t116 fun t117 H =>
  pO (aLen .sl H t117) H fun t118 H =>
  pGtr t118 (.int .i64 (.ofNat 2048)) H fun t119 H =>
  S29_2 call t0 t1 t3 t6 t8 t100 t112 t119 H) (S29_2 call t0 t1 t3 t6 t8 t100 t112 U H)
noncomputable def S29_4 (call : CallFn) (t0 t1 t3 t6 t8 : AV) (H : AHeap) : R :=
  pO (aNil t0) H fun t102 H =>
  pFa 10 t102 H fun t103 H =>
  ldK .none H t103 fun t104 H =>
  guardA t104 false (pO (aNil t8) H fun t107 H =>
  pFa 2 t107 H fun t108 H =>
  ldK .none H t108 fun t109 H =>
  pO (aLen .sl H t109) H fun t110 H =>
  pGtr t110 (.int .i64 (.ofNat 64)) H fun t111 H =>
  S29_3 call t0 t1 t3 t6 t8 t0 t104 t111 H) (S29_3 call t0 t1 t3 t6 t8 t0 t104 U H)
noncomputable def S29_5 (call : CallFn) (t0 t1 t3 t6 t8 : AV) (H : AHeap) : R :=
  pO (aNil t8) H fun t75 H =>
  pFa 1 t75 H fun t76 H =>
  ldK .none H t76 fun t77 H =>
  pN (aBsl 1 1 [.nilsl] [(0, 1, .nilsl)]) H fun t78 H =>
  pW (aApp 1 24 H t77 t78) fun t79 H =>
  pO (aNil t8) H fun t80 H =>
  pFa 1 t80 H fun t81 H =>
  stK 1 H t81 t79 fun _ H =>
  pFa 3 t6 H fun t83 H =>
  ldK .none H t83 fun t84 H =>
  pIa 4 t84 (.int .i64 (.ofNat 2)) H fun t85 H =>
  ldK (.some 4) H t85 fun t86 H =>
  pC call 77 [t8, t86] H fun _ H =>
  pFa 3 t6 H fun t88 H =>
  ldK .none H t88 fun t89 H =>
  pIa 4 t89 (.int .i64 (.ofNat 1)) H fun t90 H =>
  pFa 0 t90 H fun t91 H =>
  ldK .none H t91 fun t92 H =>
  pEql t92 (.str [110, 111, 110, 101]) H fun t93 H =>
  onBool t93 (pO (someAgg (aFill [(.int .i64 (.ofNat 0)), (.int .i64 (.ofNat 0)), (.int .i64 (.ofNat 0)), (.int .i64 (.ofNat 0)), (.int .i64 (.ofNat 0))] [(0, 1, (.int .i64 (.ofNat 22))), (1, 1, (.int .i64 (.negSucc 0)))])) H fun t95 H =>
  pC call 78 [t8, t95] H fun _ H =>
  S29_4 call t0 t1 t3 t6 t8 H) (pO (someAgg (aFill [(.int .i64 (.ofNat 0)), (.int .i64 (.ofNat 0)), (.int .i64 (.ofNat 0)), (.int .i64 (.ofNat 0)), (.int .i64 (.ofNat 0))] [(0, 1, (.int .i64 (.ofNat 44))), (1, 1, (.int .i64 (.ofNat 1)))])) H fun t98 H =>
  pC call 78 [t8, t98] H fun _ H =>
  S29_4 call t0 t1 t3 t6 t8 H)
noncomputable def S29_6 (call : CallFn) (n : Nat) : AV → AV → AV → AV → AV → AV → AV → AV → AHeap → R :=
  Nat.rec (motive := fun _ => AV → AV → AV → AV → AV → AV → AV → AV → AHeap → R) (fun _ _ _ _ _ _ _ _ _ => none) (fun _ q0 t0 t1 t3 t6 t8 t43 t44 t45 H => pLss t45 t44 H fun t46 H =>
  onBool t46 (pIa 6 t43 t45 H fun t47 H =>
  ldK (.some 6) H t47 fun t48 H =>
  pNew [(.str []), (.str []), (.str []), (.int .i64 (.ofNat 0)), .nilsl, (.int .i64 (.ofNat 0))] H fun t12 H =>
  stK 6 H t12 t48 fun _ H =>
  pO (aNil t8) H fun t50 H =>
  pFa 1 t50 H fun t51 H =>
  ldK .none H t51 fun t52 H =>
  pO (aNil t8) H fun t54 H =>
  pFa 1 t54 H fun t55 H =>
  ldK .none H t55 fun t56 H =>
  pIa 1 t56 (.int .i64 (.ofNat 0)) H fun t57 H =>
  ldK .none H t57 fun t58 H =>
  pFa 0 t12 H fun t59 H =>
  ldK .none H t59 fun t60 H =>
  pFa 1 t12 H fun t61 H =>
  ldK (.some 4) H t61 fun t62 H =>
  pFa 1 t12 H fun t64 H =>
  ldK (.some 4) H t64 fun t65 H =>
  pC call 73 [t65] H fun t66 H =>
  andR (andB (ckV (aLoad .none H t51) t52) (andB (ckV (aLoad .none H t55) t56) (andB (ckV (aLoad .none H t57) t58) (andB (ckV (aLoad .none H t59) t60) (andB (ckV (aLoad (.some 4) H t61) t62) true))))) (
  pC call 75 [t8, t66] H fun t67 H =>
  andR (andB (ckV (aLoad .none H t51) t52) (andB (ckV (aLoad .none H t55) t56) (andB (ckV (aLoad .none H t57) t58) (andB (ckV (aLoad .none H t59) t60) (andB (ckV (aLoad (.some 4) H t61) t62) true))))) (
  pO (someAgg (aFill [(.str []), (.str []), (.str []), (.int .i64 (.ofNat 0)), .nilsl, (.int .i64 (.ofNat 0))] [(0, 1, t60), (1, 4, t62), (5, 1, t67)])) H fun t68 H =>
  pN (aBsl 6 1 [(.str []), (.str []), (.str []), (.int .i64 (.ofNat 0)), .nilsl, (.int .i64 (.ofNat 0))] [(0, 6, t68)]) H fun t69 H =>
  pC call 76 [t58, (.int .i64 (.ofNat 0)), t69] H fun t70 H =>
  andR (andB (ckV (aLoad .none H t51) t52) true) (
  pIa 1 t52 (.int .i64 (.ofNat 0)) H fun t71 H =>
  stK 1 H t71 t70 fun _ H =>
  pAdd t45 (.int .i64 (.ofNat 1)) H fun t72 H =>
  q0 t0 t1 t3 t6 t8 t43 t44 t72 H)))) (S29_5 call t0 t1 t3 t6 t8 H)) n
noncomputable def S29_7 (call : CallFn) (t0 t1 t3 t6 t8 : AV) (H : AHeap) : R :=
  pO (aLen .sl H t3) H fun t44 H =>
  S29_6 call 1000000 t0 t1 t3 t6 t8 t3 t44 (.int .i64 (.ofNat 0)) H
noncomputable def S29_8 (call : CallFn) (n : Nat) : AV → AV → AV → AV → AV → AV → AV → AV → AHeap → R :=
  Nat.rec (motive := fun _ => AV → AV → AV → AV → AV → AV → AV → AV → AHeap → R) (fun _ _ _ _ _ _ _ _ _ => none) (fun _ q1 t0 t1 t3 t6 t8 t21 t22 t23 H => pLss t23 t22 H fun t24 H =>
  onBool t24 (pIa 4 t21 t23 H fun t25 H =>
  ldK (.some 4) H t25 fun t26 H =>
  pNew [(.str []), (.str []), (.int .i64 (.ofNat 0)), .nilsl] H fun t10 H =>
  stK 4 H t10 t26 fun _ H =>
  pFa 1 t10 H fun t28 H =>
  ldK .none H t28 fun t29 H =>
  pFa 3 t10 H fun t30 H =>
  ldK .none H t30 fun t31 H =>
  pIa 4 t31 (.int .i64 (.ofNat 0)) H fun t32 H =>
  ldK (.some 4) H t32 fun t33 H =>
  pFa 3 t10 H fun t35 H =>
  ldK .none H t35 fun t36 H =>
  pIa 4 t36 (.int .i64 (.ofNat 0)) H fun t37 H =>
  ldK (.some 4) H t37 fun t38 H =>
  pC call 73 [t38] H fun t39 H =>
  andR (andB (ckV (aLoad .none H t28) t29) (andB (ckV (aLoad .none H t30) t31) (andB (ckV (aLoad (.some 4) H t32) t33) true))) (
  pC call 75 [t8, t39] H fun t40 H =>
  andR (andB (ckV (aLoad .none H t28) t29) (andB (ckV (aLoad .none H t30) t31) (andB (ckV (aLoad (.some 4) H t32) t33) true))) (
  pC call 74 [t8, t29, t33, t40] H fun _ H =>
  pAdd t23 (.int .i64 (.ofNat 1)) H fun t42 H =>
  q1 t0 t1 t3 t6 t8 t21 t22 t42 H))) (S29_7 call t0 t1 t3 t6 t8 H)) n
noncomputable def S29_9 (call : CallFn) (t0 t1 t2 t3 : AV) (H : AHeap) : R :=
  pBox t2 H fun t6 H =>
  pN (aBsl 1 1 [.nilsl] [(0, 1, .nilsl)]) H fun t14 H =>
  pO (someAgg (aFill [.nilp, .nilsl, .nilsl, .nilsl, .nilsl] [(0, 1, t0), (1, 1, t14)])) H fun t15 H =>
  pBox t15 H fun t16 H =>
  pFa 3 t6 H fun t17 H =>
  ldK .none H t17 fun t18 H =>
  pIa 4 t18 (.int .i64 (.ofNat 0)) H fun t19 H =>
  pFa 3 t19 H fun t20 H =>
  ldK .none H t20 fun t21 H =>
  pO (aLen .sl H t21) H fun t22 H =>
  S29_8 call 1000000 t0 t1 t3 t6 t16 t21 t22 (.int .i64 (.ofNat 0)) H
noncomputable def S29 : Ff := ⟨fun call l H => argA4 (fun t0 t1 t2 t3 => S29_9 call t0 t1 t2 t3 H) l⟩
/- gantline/lower.Loose -/
noncomputable def S30_0 (call : CallFn) (t0 : AV) (H : AHeap) : R :=
  pBox t0 H fun t1 H =>
  ldK (.some 6) H t1 fun t6 H =>
  pN (aBsl 1 2 [(.int .i64 (.ofNat 0))] [(0, 1, (.int .i64 (.ofNat 8))), (1, 1, (.int .i64 (.ofNat 9)))]) H fun t7 H =>
  pC call 58 [t6, t7] H fun t8 H =>
  pExt t8 0 H fun t9 H =>
  pExt t8 1 H fun t10 H =>
  pNew [(.int .i64 (.ofNat 0)), (.int .i64 (.ofNat 0)), (.int .i64 (.ofNat 0))] H fun t3 H =>
  stK 3 H t3 t9 fun _ H =>
  some (t10, H)
noncomputable def S30 : Ff := ⟨fun call l H => argA1 (fun t0 => S30_0 call t0 H) l⟩
/- gantline/emit.Polls -/
noncomputable def S31_0 (_ : CallFn) (t1 t2 : AV) (H : AHeap) : R :=
  ldK (.some 6) H t1 fun t144 H =>
  stK 6 H t2 t144 fun _ H =>
  ob (allM (fun o => o) [aLoad (.some 6) H t2]) fun vs => some (resV vs, H)
noncomputable def S31_2 (_ : CallFn) (q0 : AV → AV → AV → AV → AV → AV → AV → AHeap → R) (t1 t2 t3 t4 t26 t27 t28 : AV) (H : AHeap) : R :=
  pAdd t28 (.int .i64 (.ofNat 1)) H fun t143 H =>
  q0 t1 t2 t3 t4 t26 t27 t143 H
noncomputable def S31_3 (call : CallFn) (q0 : AV → AV → AV → AV → AV → AV → AV → AHeap → R) (t1 t2 t3 t4 t5 t12 t26 t27 t28 : AV) (H : AHeap) : R :=
  pFa 4 t1 H fun t129 H =>
  ldK .none H t129 fun t130 H =>
  pFa 4 t1 H fun t132 H =>
  ldK .none H t132 fun t133 H =>
  pO (aLen .sl H t12) H fun t137 H =>
  pN (aMksl 1 8 [(.int .u64 (.ofNat 0))] t137 t137) H fun t138 H =>
  pIa 7 t130 t5 H fun t139 H =>
  pFa 5 t139 H fun t140 H =>
  stK 1 H t140 t12 fun _ H =>
  andR (andB (ckV (aLoad .none H t132) t133) (andB (ckV (aLen .sl H t12) t137) true)) (
  pIa 7 t133 t5 H fun t141 H =>
  pFa 6 t141 H fun t142 H =>
  stK 1 H t142 t138 fun _ H =>
  S31_2 call q0 t1 t2 t3 t4 t26 t27 t28 H)
noncomputable def S31_5 (_ : CallFn) (q1 : AV → AV → AV → AV → AV → AV → AV → AV → AV → AV → AV → AV → AV → AV → AHeap → R) (t1 t2 t3 t4 t5 t7 t11 t12 t26 t27 t28 t60 t61 t62 : AV) (H : AHeap) : R :=
  pAdd t62 (.int .i64 (.ofNat 1)) H fun t128 H =>
  q1 t1 t2 t3 t4 t5 t7 t11 t12 t26 t27 t28 t60 t61 t128 H
noncomputable def S31_6 (call : CallFn) (q1 : AV → AV → AV → AV → AV → AV → AV → AV → AV → AV → AV → AV → AV → AV → AHeap → R) (t1 t2 t3 t4 t5 t7 t11 t12 t14 t26 t27 t28 t60 t61 t62 : AV) (H : AHeap) : R :=
  ldK (.some 5) H t14 fun t125 H =>
  pN (aBsl 5 1 [(.int .i64 (.ofNat 0)), (.int .i64 (.ofNat 0)), (.int .i64 (.ofNat 0)), (.int .i64 (.ofNat 0)), (.int .i64 (.ofNat 0))] [(0, 5, t125)]) H fun t126 H =>
  pW (aApp 5 40 H t12 t126) fun t127 H =>
  S31_5 call q1 t1 t2 t3 t4 t5 t7 t11 t127 t26 t27 t28 t60 t61 t62 H
noncomputable def S31_8 (_ : CallFn) (q2 : AV → AV → AV → AV → AV → AV → AV → AV → AV → AV → AV → AV → AV → AV → AV → AV → AV → AHeap → R) (t1 t2 t3 t4 t5 t7 t11 t12 t14 t16 t17 t26 t27 t28 t60 t61 t62 : AV) (H : AHeap) : R :=
  pAdd t17 (.int .i64 (.ofNat 1)) H fun t102 H =>
  q2 t1 t2 t3 t4 t5 t7 t11 t12 t14 t16 t102 t26 t27 t28 t60 t61 t62 H
noncomputable def S31_7 (call : CallFn) (q1 : AV → AV → AV → AV → AV → AV → AV → AV → AV → AV → AV → AV → AV → AV → AHeap → R) (n : Nat) : AV → AV → AV → AV → AV → AV → AV → AV → AV → AV → AV → AV → AV → AV → AV → AV → AV → AHeap → R :=
  Nat.rec (motive := fun _ => AV → AV → AV → AV → AV → AV → AV → AV → AV → AV → AV → AV → AV → AV → AV → AV → AV → AHeap → R) (fun _ _ _ _ _ _ _ _ _ _ _ _ _ _ _ _ _ _ => none) (fun _ q2 t1 t2 t3 t4 t5 t7 t11 t12 t14 t16 t17 t26 t27 t28 t60 t61 t62 H => pLss t17 t16 H fun t100 H =>
  onBool t100 (pIa 1 t4 t17 H fun t105 H =>
  ldK .none H t105 fun t106 H =>
  pO (aUn .not t106) H fun t107 H =>
  onBool t107 (pFa 3 t1 H fun t108 H =>
  ldK .none H t108 fun t109 H =>
  pFa 3 t3 H fun t114 H =>
  ldK .none H t114 fun t115 H =>
  pIa 4 t115 t17 H fun t117 H =>
  pFa 3 t117 H fun t118 H =>
  ldK .none H t118 fun t119 H =>
  pV call t11 [t119] H fun t120 H =>
  andR (andB (ckV (aLoad .none H t108) t109) true) (
  pIa 4 t109 t17 H fun t121 H =>
  pFa 3 t121 H fun t122 H =>
  stK 1 H t122 t120 fun _ H =>
  pIa 1 t4 t17 H fun t123 H =>
  stK 1 H t123 (.bool true) fun _ H =>
  S31_8 call q2 t1 t2 t3 t4 t5 t7 t11 t12 t14 t16 t17 t26 t27 t28 t60 t61 t62 H)) (S31_8 call q2 t1 t2 t3 t4 t5 t7 t11 t12 t14 t16 t17 t26 t27 t28 t60 t61 t62 H)) (S31_6 call q1 t1 t2 t3 t4 t5 t7 t11 t12 t14 t26 t27 t28 t60 t61 t62 H)) n
noncomputable def S31_9 (call : CallFn) (q1 : AV → AV → AV → AV → AV → AV → AV → AV → AV → AV → AV → AV → AV → AV → AHeap → R) (t1 t2 t3 t4 t5 t7 t11 t12 t14 t26 t27 t28 t60 t61 t62 : AV) (H : AHeap) : R :=
  ldK (.some 6) H t3 fun t92 H =>
  ldK (.some 5) H t14 fun t93 H =>
  pC call 83 [t92, t93] H fun t94 H =>
  pExt t94 0 H fun t95 H =>
  pExt t94 1 H fun t96 H =>
  S31_7 call q1 1000000 t1 t2 t3 t4 t5 t7 t11 t12 t14 t96 t95 t26 t27 t28 t60 t61 t62 H
noncomputable def S31_10 (call : CallFn) (q1 : AV → AV → AV → AV → AV → AV → AV → AV → AV → AV → AV → AV → AV → AV → AHeap → R) (t1 t2 t3 t4 t5 t7 t11 t12 t14 t26 t27 t28 t60 t61 t62 : AV) (H : AHeap) : R :=
  pFa 0 t14 H fun t75 H =>
  ldK .none H t75 fun t76 H =>
  pEql t76 (.int .i64 (.ofNat 18)) H fun t78 H =>
  onBool t78 (pFa 1 t14 H fun t80 H =>
  ldK .none H t80 fun t81 H =>
  pV call t11 [t81] H fun t82 H =>
  pFa 1 t14 H fun t83 H =>
  stK 1 H t83 t82 fun _ H =>
  S31_9 call q1 t1 t2 t3 t4 t5 t7 t11 t12 t14 t26 t27 t28 t60 t61 t62 H) (pEql t76 (.int .i64 (.ofNat 19)) H fun t85 H =>
  onBool t85 (pFa 2 t14 H fun t87 H =>
  ldK .none H t87 fun t88 H =>
  pV call t11 [t88] H fun t89 H =>
  pFa 2 t14 H fun t90 H =>
  stK 1 H t90 t89 fun _ H =>
  S31_9 call q1 t1 t2 t3 t4 t5 t7 t11 t12 t14 t26 t27 t28 t60 t61 t62 H) (S31_9 call q1 t1 t2 t3 t4 t5 t7 t11 t12 t14 t26 t27 t28 t60 t61 t62 H))
noncomputable def S31_4 (call : CallFn) (q0 : AV → AV → AV → AV → AV → AV → AV → AHeap → R) (n : Nat) : AV → AV → AV → AV → AV → AV → AV → AV → AV → AV → AV → AV → AV → AV → AHeap → R :=
  Nat.rec (motive := fun _ => AV → AV → AV → AV → AV → AV → AV → AV → AV → AV → AV → AV → AV → AV → AHeap → R) (fun _ _ _ _ _ _ _ _ _ _ _ _ _ _ _ => none) (fun _ q1 t1 t2 t3 t4 t5 t7 t11 t12 t26 t27 t28 t60 t61 t62 H => pLss t62 t61 H fun t63 H =>
  onBool t63 (pIa 5 t60 t62 H fun t65 H =>
  ldK (.some 5) H t65 fun t66 H =>
  pNew [(.int .i64 (.ofNat 0)), (.int .i64 (.ofNat 0)), (.int .i64 (.ofNat 0)), (.int .i64 (.ofNat 0)), (.int .i64 (.ofNat 0))] H fun t14 H =>
  stK 5 H t14 t66 fun _ H =>
  pIa 1 t7 t62 H fun t69 H =>
  ldK .none H t69 fun t70 H =>
  onBool t70 (pO (someAgg (aFill [(.int .i64 (.ofNat 0)), (.int .i64 (.ofNat 0)), (.int .i64 (.ofNat 0)), (.int .i64 (.ofNat 0)), (.int .i64 (.ofNat 0))] [(0, 1, (.int .i64 (.ofNat 43)))])) H fun t72 H =>
  pN (aBsl 5 1 [(.int .i64 (.ofNat 0)), (.int .i64 (.ofNat 0)), (.int .i64 (.ofNat 0)), (.int .i64 (.ofNat 0)), (.int .i64 (.ofNat 0))] [(0, 5, t72)]) H fun t73 H =>
  pW (aApp 5 40 H t12 t73) fun t74 H =>
  S31_10 call q1 t1 t2 t3 t4 t5 t7 t11 t74 t14 t26 t27 t28 t60 t61 t62 H) (S31_10 call q1 t1 t2 t3 t4 t5 t7 t11 t12 t14 t26 t27 t28 t60 t61 t62 H)) (S31_3 call q0 t1 t2 t3 t4 t5 t12 t26 t27 t28 H)) n
noncomputable def S31_11 (call : CallFn) (q0 : AV → AV → AV → AV → AV → AV → AV → AHeap → R) (t1 t2 t3 t4 t5 t6 t7 t8 t26 t27 t28 : AV) (H : AHeap) : R :=
  pFa 5 t6 H fun t59 H =>
  ldK .none H t59 fun t60 H =>
  pO (aLen .sl H t60) H fun t61 H =>
  S31_4 call q0 1000000 t1 t2 t3 t4 t5 t7 (.fn 82 [] [t8]) .nilsl t26 t27 t28 t60 t61 (.int .i64 (.ofNat 0)) H
noncomputable def S31_13 (_ : CallFn) (q3 : AV → AV → AV → AV → AV → AV → AV → AV → AV → AV → AV → AV → AV → AV → AHeap → R) (t1 t2 t3 t4 t5 t6 t7 t8 t9 t26 t27 t28 t41 t42 : AV) (H : AHeap) : R :=
  pAdd t42 (.int .i64 (.ofNat 1)) H fun t57 H =>
  q3 t1 t2 t3 t4 t5 t6 t7 t8 t9 t26 t27 t28 t41 t57 H
noncomputable def S31_12 (call : CallFn) (q0 : AV → AV → AV → AV → AV → AV → AV → AHeap → R) (n : Nat) : AV → AV → AV → AV → AV → AV → AV → AV → AV → AV → AV → AV → AV → AV → AHeap → R :=
  Nat.rec (motive := fun _ => AV → AV → AV → AV → AV → AV → AV → AV → AV → AV → AV → AV → AV → AV → AHeap → R) (fun _ _ _ _ _ _ _ _ _ _ _ _ _ _ _ => none) (fun _ q3 t1 t2 t3 t4 t5 t6 t7 t8 t9 t26 t27 t28 t41 t42 H => pLss t42 t41 H fun t43 H =>
  onBool t43 (ldK .none H t8 fun t45 H =>
  pAdd t42 t9 H fun t49 H =>
  pIa 1 t45 t42 H fun t50 H =>
  stK 1 H t50 t49 fun _ H =>
  pIa 1 t7 t42 H fun t53 H =>
  ldK .none H t53 fun t54 H =>
  onBool t54 (pAdd t9 (.int .i64 (.ofNat 1)) H fun t56 H =>
  S31_13 call q3 t1 t2 t3 t4 t5 t6 t7 t8 t56 t26 t27 t28 t41 t42 H) (S31_13 call q3 t1 t2 t3 t4 t5 t6 t7 t8 t9 t26 t27 t28 t41 t42 H)) (S31_11 call q0 t1 t2 t3 t4 t5 t6 t7 t8 t26 t27 t28 H)) n
noncomputable def S31_1 (call : CallFn) (n : Nat) : AV → AV → AV → AV → AV → AV → AV → AHeap → R :=
  Nat.rec (motive := fun _ => AV → AV → AV → AV → AV → AV → AV → AHeap → R) (fun _ _ _ _ _ _ _ _ => none) (fun _ q0 t1 t2 t3 t4 t26 t27 t28 H => pLss t28 t27 H fun t29 H =>
  onBool t29 (pIa 7 t26 t28 H fun t31 H =>
  ldK (.some 7) H t31 fun t32 H =>
  pNew [(.int .i64 (.ofNat 0)), (.int .i64 (.ofNat 0)), (.int .i64 (.ofNat 0)), (.int .i64 (.ofNat 0)), .nilsl, .nilsl, .nilsl] H fun t6 H =>
  stK 7 H t6 t32 fun _ H =>
  ldK (.some 6) H t3 fun t33 H =>
  ldK (.some 7) H t6 fun t34 H =>
  pC call 81 [t33, t34] H fun t35 H =>
  pFa 5 t6 H fun t36 H =>
  ldK .none H t36 fun t37 H =>
  pO (aLen .sl H t37) H fun t38 H =>
  pN (aMksl 1 8 [(.int .i64 (.ofNat 0))] t38 t38) H fun t39 H =>
  pNew [.nilsl] H fun t8 H =>
  stK 1 H t8 t39 fun _ H =>
  ldK .none H t8 fun t40 H =>
  pO (aLen .sl H t40) H fun t41 H =>
  S31_12 call q0 1000000 t1 t2 t3 t4 t28 t6 t35 t8 (.int .i64 (.ofNat 0)) t26 t27 t28 t41 (.int .i64 (.ofNat 0)) H) (S31_0 call t1 t2 H)) n
noncomputable def S31_14 (call : CallFn) (t0 : AV) (H : AHeap) : R :=
  pBox t0 H fun t1 H =>
  pNew [.nilsl, .nilsl, .nilsl, .nilsl, .nilsl, (.int .i64 (.ofNat 0))] H fun t2 H =>
  ldK (.some 6) H t1 fun t18 H =>
  pNew [.nilsl, .nilsl, .nilsl, .nilsl, .nilsl, (.int .i64 (.ofNat 0))] H fun t3 H =>
  stK 6 H t3 t18 fun _ H =>
  ldK (.some 6) H t1 fun t19 H =>
  pC call 80 [t19] H fun t20 H =>
  stK 6 H t1 t20 fun _ H =>
  pFa 3 t1 H fun t21 H =>
  ldK .none H t21 fun t22 H =>
  pO (aLen .sl H t22) H fun t23 H =>
  pN (aMksl 1 1 [(.bool false)] t23 t23) H fun t24 H =>
  pFa 4 t3 H fun t25 H =>
  ldK .none H t25 fun t26 H =>
  pO (aLen .sl H t26) H fun t27 H =>
  S31_1 call 1000000 t1 t2 t3 t24 t26 t27 (.int .i64 (.ofNat 0)) H
noncomputable def S31 : Ff := ⟨fun call l H => argA1 (fun t0 => S31_14 call t0 H) l⟩
/- slices.ContainsFunc[[]gantline/code.Func,gantline/code.Func] -/
noncomputable def S32_0 (call : CallFn) (t0 t1 : AV) (H : AHeap) : R :=
  pC call 84 [t0, t1] H fun t7 H =>
  pGeq t7 (.int .i64 (.ofNat 0)) H fun t8 H =>
  some (t8, H)
noncomputable def S32 : Ff := ⟨fun call l H => argA2 (fun t0 t1 => S32_0 call t0 t1 H) l⟩
/- gantline/emit.Emit$1 -/
noncomputable def S33_0 (_ : CallFn) (t0 : AV) (H : AHeap) : R :=
  pBox t0 H fun t1 H =>
  pFa 5 t1 H fun t3 H =>
  ldK .none H t3 fun t4 H =>
  pO (aLen .sl H t4) H fun t5 H =>
  pGtr t5 (.int .i64 (.ofNat 4096)) H fun t6 H =>
  some (t6, H)
noncomputable def S33 : Ff := ⟨fun call l H => argA1 (fun t0 => S33_0 call t0 H) l⟩
/- gantline/emit.Maps -/
noncomputable def S34_0 (_ : CallFn) (t1 t2 : AV) (H : AHeap) : R :=
  ldK (.some 6) H t1 fun t26 H =>
  stK 6 H t2 t26 fun _ H =>
  ob (allM (fun o => o) [aLoad (.some 6) H t2]) fun vs => some (resV vs, H)
noncomputable def S34_1 (call : CallFn) (n : Nat) : AV → AV → AV → AV → AV → AV → AHeap → R :=
  Nat.rec (motive := fun _ => AV → AV → AV → AV → AV → AV → AHeap → R) (fun _ _ _ _ _ _ _ => none) (fun _ q0 t1 t2 t3 t10 t11 t12 H => pLss t12 t11 H fun t13 H =>
  onBool t13 (pIa 7 t10 t12 H fun t15 H =>
  ldK (.some 7) H t15 fun t16 H =>
  pNew [(.int .i64 (.ofNat 0)), (.int .i64 (.ofNat 0)), (.int .i64 (.ofNat 0)), (.int .i64 (.ofNat 0)), .nilsl, .nilsl, .nilsl] H fun t5 H =>
  stK 7 H t5 t16 fun _ H =>
  pFa 4 t1 H fun t17 H =>
  ldK .none H t17 fun t18 H =>
  ldK (.some 6) H t3 fun t20 H =>
  ldK (.some 7) H t5 fun t21 H =>
  pC call 85 [t20, t21] H fun t22 H =>
  andR (andB (ckV (aLoad .none H t17) t18) true) (
  pIa 7 t18 t12 H fun t23 H =>
  pFa 6 t23 H fun t24 H =>
  stK 1 H t24 t22 fun _ H =>
  pAdd t12 (.int .i64 (.ofNat 1)) H fun t25 H =>
  q0 t1 t2 t3 t10 t11 t25 H)) (S34_0 call t1 t2 H)) n
noncomputable def S34_2 (call : CallFn) (t0 : AV) (H : AHeap) : R :=
  pBox t0 H fun t1 H =>
  pNew [.nilsl, .nilsl, .nilsl, .nilsl, .nilsl, (.int .i64 (.ofNat 0))] H fun t2 H =>
  ldK (.some 6) H t1 fun t6 H =>
  pNew [.nilsl, .nilsl, .nilsl, .nilsl, .nilsl, (.int .i64 (.ofNat 0))] H fun t3 H =>
  stK 6 H t3 t6 fun _ H =>
  ldK (.some 6) H t1 fun t7 H =>
  pC call 80 [t7] H fun t8 H =>
  stK 6 H t1 t8 fun _ H =>
  pFa 4 t3 H fun t9 H =>
  ldK .none H t9 fun t10 H =>
  pO (aLen .sl H t10) H fun t11 H =>
  S34_1 call 1000000 t1 t2 t3 t10 t11 (.int .i64 (.ofNat 0)) H
noncomputable def S34 : Ff := ⟨fun call l H => argA1 (fun t0 => S34_2 call t0 H) l⟩
/- gantline/emit.Spares -/
noncomputable def S35_0 (_ : CallFn) (t1 t2 : AV) (H : AHeap) : R :=
  ldK (.some 6) H t1 fun t61 H =>
  stK 6 H t2 t61 fun _ H =>
  ob (allM (fun o => o) [aLoad (.some 6) H t2]) fun vs => some (resV vs, H)
noncomputable def S35_2 (_ : CallFn) (q0 : AV → AV → AV → AV → AV → AV → AHeap → R) (t1 t2 t3 t13 t14 t15 : AV) (H : AHeap) : R :=
  pAdd t15 (.int .i64 (.ofNat 1)) H fun t60 H =>
  q0 t1 t2 t3 t13 t14 t60 H
noncomputable def S35_4 (_ : CallFn) (q1 : AV → AV → AV → AV → AV → AV → AV → AV → AV → AV → AV → AV → AHeap → R) (t1 t2 t3 t4 t5 t6 t13 t14 t15 t24 t25 t26 : AV) (H : AHeap) : R :=
  pAdd t26 (.int .i64 (.ofNat 1)) H fun t59 H =>
  q1 t1 t2 t3 t4 t5 t6 t13 t14 t15 t24 t25 t59 H
noncomputable def S35_5 (call : CallFn) (q1 : AV → AV → AV → AV → AV → AV → AV → AV → AV → AV → AV → AV → AHeap → R) (t1 t2 t3 t4 t5 t6 t7 t13 t14 t15 t24 t25 t26 t39 t44 : AV) (H : AHeap) : R :=
  pPick t39 (.bool true) t44 H fun t45 H =>
  onBool t45 (S35_4 call q1 t1 t2 t3 t4 t5 t6 t13 t14 t15 t24 t25 t26 H) (pFa 4 t1 H fun t46 H =>
  ldK .none H t46 fun t47 H =>
  pIa 7 t47 t4 H fun t49 H =>
  pFa 5 t49 H fun t50 H =>
  ldK .none H t50 fun t51 H =>
  pIa 5 t51 t7 H fun t53 H =>
  pFa 0 t53 H fun t54 H =>
  ldK .none H t54 fun t55 H =>
  pAdd t55 (.int .i64 (.ofNat 1)) H fun t56 H =>
  pIa 5 t51 t7 H fun t57 H =>
  pFa 0 t57 H fun t58 H =>
  stK 1 H t58 t56 fun _ H =>
  S35_4 call q1 t1 t2 t3 t4 t5 t6 t13 t14 t15 t24 t25 t26 H)
noncomputable def S35_6 (call : CallFn) (q1 : AV → AV → AV → AV → AV → AV → AV → AV → AV → AV → AV → AV → AHeap → R) (t1 t2 t3 t4 t5 t6 t7 t13 t14 t15 t24 t25 t26 t34 t37 : AV) (H : AHeap) : R :=
  pPick t34 t37 (.bool false) H fun t38 H =>
  guardA t38 false (ldK (.some 7) H t5 fun t40 H =>
  pC call 87 [t40, t6, t7] H fun t43 H =>
  pO (aUn .not t43) H fun t44 H =>
  S35_5 call q1 t1 t2 t3 t4 t5 t6 t7 t13 t14 t15 t24 t25 t26 t38 t44 H) (S35_5 call q1 t1 t2 t3 t4 t5 t6 t7 t13 t14 t15 t24 t25 t26 t38 U H)
noncomputable def S35_3 (call : CallFn) (q0 : AV → AV → AV → AV → AV → AV → AHeap → R) (n : Nat) : AV → AV → AV → AV → AV → AV → AV → AV → AV → AV → AV → AV → AHeap → R :=
  Nat.rec (motive := fun _ => AV → AV → AV → AV → AV → AV → AV → AV → AV → AV → AV → AV → AHeap → R) (fun _ _ _ _ _ _ _ _ _ _ _ _ _ => none) (fun _ q1 t1 t2 t3 t4 t5 t6 t13 t14 t15 t24 t25 t26 H => pLss t26 t25 H fun t27 H =>
  onBool t27 (pIa 5 t24 t26 H fun t29 H =>
  ldK (.some 5) H t29 fun t30 H =>
  pNew [(.int .i64 (.ofNat 0)), (.int .i64 (.ofNat 0)), (.int .i64 (.ofNat 0)), (.int .i64 (.ofNat 0)), (.int .i64 (.ofNat 0))] H fun t8 H =>
  stK 5 H t8 t30 fun _ H =>
  pFa 0 t8 H fun t31 H =>
  ldK .none H t31 fun t32 H =>
  pNeq t32 (.int .i64 (.ofNat 28)) H fun t33 H =>
  guardA t33 true (pFa 0 t8 H fun t35 H =>
  ldK .none H t35 fun t36 H =>
  pNeq t36 (.int .i64 (.ofNat 31)) H fun t37 H =>
  S35_6 call q1 t1 t2 t3 t4 t5 t6 t26 t13 t14 t15 t24 t25 t26 t33 t37 H) (S35_6 call q1 t1 t2 t3 t4 t5 t6 t26 t13 t14 t15 t24 t25 t26 t33 U H)) (S35_2 call q0 t1 t2 t3 t13 t14 t15 H)) n
noncomputable def S35_1 (call : CallFn) (n : Nat) : AV → AV → AV → AV → AV → AV → AHeap → R :=
  Nat.rec (motive := fun _ => AV → AV → AV → AV → AV → AV → AHeap → R) (fun _ _ _ _ _ _ _ => none) (fun _ q0 t1 t2 t3 t13 t14 t15 H => pLss t15 t14 H fun t16 H =>
  onBool t16 (pIa 7 t13 t15 H fun t18 H =>
  ldK (.some 7) H t18 fun t19 H =>
  pNew [(.int .i64 (.ofNat 0)), (.int .i64 (.ofNat 0)), (.int .i64 (.ofNat 0)), (.int .i64 (.ofNat 0)), .nilsl, .nilsl, .nilsl] H fun t5 H =>
  stK 7 H t5 t19 fun _ H =>
  ldK (.some 6) H t3 fun t20 H =>
  ldK (.some 7) H t5 fun t21 H =>
  pC call 86 [t20, t21] H fun t22 H =>
  pFa 5 t5 H fun t23 H =>
  ldK .none H t23 fun t24 H =>
  pO (aLen .sl H t24) H fun t25 H =>
  S35_3 call q0 1000000 t1 t2 t3 t15 t5 t22 t13 t14 t15 t24 t25 (.int .i64 (.ofNat 0)) H) (S35_0 call t1 t2 H)) n
noncomputable def S35_7 (call : CallFn) (t0 : AV) (H : AHeap) : R :=
  pBox t0 H fun t1 H =>
  pNew [.nilsl, .nilsl, .nilsl, .nilsl, .nilsl, (.int .i64 (.ofNat 0))] H fun t2 H =>
  ldK (.some 6) H t1 fun t9 H =>
  pNew [.nilsl, .nilsl, .nilsl, .nilsl, .nilsl, (.int .i64 (.ofNat 0))] H fun t3 H =>
  stK 6 H t3 t9 fun _ H =>
  ldK (.some 6) H t1 fun t10 H =>
  pC call 80 [t10] H fun t11 H =>
  stK 6 H t1 t11 fun _ H =>
  pFa 4 t3 H fun t12 H =>
  ldK .none H t12 fun t13 H =>
  pO (aLen .sl H t13) H fun t14 H =>
  S35_1 call 1000000 t1 t2 t3 t13 t14 (.int .i64 (.ofNat 0)) H
noncomputable def S35 : Ff := ⟨fun call l H => argA1 (fun t0 => S35_7 call t0 H) l⟩
/- gantline/code.magic -/
noncomputable def S36_0 (_ : CallFn) (H : AHeap) : R :=
  pN (aBsl 1 4 [(.int .u8 (.ofNat 0))] [(0, 1, (.int .u8 (.ofNat 71))), (1, 1, (.int .u8 (.ofNat 79))), (2, 1, (.int .u8 (.ofNat 76))), (3, 1, (.int .u8 (.ofNat 49)))]) H fun t1 H =>
  some (t1, H)
noncomputable def S36 : Ff := ⟨fun call l H => argA0 (S36_0 call H) l⟩
/- (*gantline/code.writer).num -/
noncomputable def S37_0 (_ : CallFn) (t0 t1 : AV) (H : AHeap) : R :=
  pO (aNil t0) H fun t23 H =>
  pFa 0 t23 H fun t24 H =>
  ldK .none H t24 fun t25 H =>
  pConv .u8 t1 H fun t27 H =>
  pN (aBsl 1 1 [(.int .u8 (.ofNat 0))] [(0, 1, t27)]) H fun t28 H =>
  pW (aApp 1 1 H t25 t28) fun t29 H =>
  pO (aNil t0) H fun t30 H =>
  pFa 0 t30 H fun t31 H =>
  stK 1 H t31 t29 fun _ H =>
  some (.tup [], H)
noncomputable def S37_1 (call : CallFn) (n : Nat) : AV → AV → AHeap → R :=
  Nat.rec (motive := fun _ => AV → AV → AHeap → R) (fun _ _ _ => none) (fun _ q0 t0 t1 H => pGtr t1 (.int .u64 (.ofNat 127)) H fun t5 H =>
  onBool t5 (pO (aNil t0) H fun t10 H =>
  pFa 0 t10 H fun t11 H =>
  ldK .none H t11 fun t12 H =>
  pAnd t1 (.int .u64 (.ofNat 127)) H fun t14 H =>
  pOr t14 (.int .u64 (.ofNat 128)) H fun t15 H =>
  pConv .u8 t15 H fun t16 H =>
  pN (aBsl 1 1 [(.int .u8 (.ofNat 0))] [(0, 1, t16)]) H fun t17 H =>
  pW (aApp 1 1 H t12 t17) fun t18 H =>
  pO (aNil t0) H fun t19 H =>
  pFa 0 t19 H fun t20 H =>
  stK 1 H t20 t18 fun _ H =>
  pO (aBin .shr t1 (.int .u64 (.ofNat 7))) H fun t7 H =>
  q0 t0 t7 H) (S37_0 call t0 t1 H)) n
noncomputable def S37 : Ff := ⟨fun call l H => argA2 (fun t0 t1 => S37_1 call 1000000 t0 t1 H) l⟩
/- (*gantline/code.writer).ints -/
noncomputable def S38_0 (call : CallFn) (n : Nat) : AV → AV → AV → AV → AHeap → R :=
  Nat.rec (motive := fun _ => AV → AV → AV → AV → AHeap → R) (fun _ _ _ _ _ => none) (fun _ q0 t0 t6 t7 t8 H => pLss t8 t7 H fun t9 H =>
  onBool t9 (pIa 1 t6 t8 H fun t10 H =>
  ldK .none H t10 fun t11 H =>
  pC call 40 [t11] H fun t14 H =>
  pC call 37 [t0, t14] H fun _ H =>
  pAdd t8 (.int .i64 (.ofNat 1)) H fun t16 H =>
  q0 t0 t6 t7 t16 H) (some (.tup [], H))) n
noncomputable def S38_1 (call : CallFn) (t0 t1 : AV) (H : AHeap) : R :=
  pO (aLen .sl H t1) H fun t7 H =>
  S38_0 call 1000000 t0 t1 t7 (.int .i64 (.ofNat 0)) H
noncomputable def S38 : Ff := ⟨fun call l H => argA2 (fun t0 t1 => S38_1 call t0 t1 H) l⟩
/- (*gantline/code.writer).flags -/
noncomputable def S39_1 (_ : CallFn) (q0 : AV → AV → AV → AV → AHeap → R) (t0 t11 t12 t13 : AV) (H : AHeap) : R :=
  pAdd t13 (.int .i64 (.ofNat 1)) H fun t22 H =>
  q0 t0 t11 t12 t22 H
noncomputable def S39_0 (call : CallFn) (n : Nat) : AV → AV → AV → AV → AHeap → R :=
  Nat.rec (motive := fun _ => AV → AV → AV → AV → AHeap → R) (fun _ _ _ _ _ => none) (fun _ q0 t0 t11 t12 t13 H => pLss t13 t12 H fun t14 H =>
  onBool t14 (pIa 1 t11 t13 H fun t15 H =>
  ldK .none H t15 fun t16 H =>
  onBool t16 (pC call 37 [t0, (.int .u64 (.ofNat 1))] H fun _ H =>
  S39_1 call q0 t0 t11 t12 t13 H) (pC call 37 [t0, (.int .u64 (.ofNat 0))] H fun _ H =>
  S39_1 call q0 t0 t11 t12 t13 H)) (some (.tup [], H))) n
noncomputable def S39_2 (call : CallFn) (t0 t1 : AV) (H : AHeap) : R :=
  pO (aLen .sl H t1) H fun t8 H =>
  pConv .u64 t8 H fun t9 H =>
  pC call 37 [t0, t9] H fun _ H =>
  pO (aLen .sl H t1) H fun t12 H =>
  S39_0 call 1000000 t0 t1 t12 (.int .i64 (.ofNat 0)) H
noncomputable def S39 : Ff := ⟨fun call l H => argA2 (fun t0 t1 => S39_2 call t0 t1 H) l⟩
/- gantline/bits.Zig -/
noncomputable def S40_0 (_ : CallFn) (t0 : AV) (H : AHeap) : R :=
  pO (aBin .shl t0 (.int .u64 (.ofNat 1))) H fun t4 H =>
  pConv .u64 t4 H fun t5 H =>
  pO (aBin .shr t0 (.int .u64 (.ofNat 63))) H fun t7 H =>
  pConv .u64 t7 H fun t8 H =>
  pXor t5 t8 H fun t9 H =>
  some (t9, H)
noncomputable def S40 : Ff := ⟨fun call l H => argA1 (fun t0 => S40_0 call t0 H) l⟩
/- (*gantline/code.writer).fn -/
noncomputable def S41_0 (call : CallFn) (n : Nat) : AV → AV → AV → AV → AHeap → R :=
  Nat.rec (motive := fun _ => AV → AV → AV → AV → AHeap → R) (fun _ _ _ _ _ => none) (fun _ q0 t0 t57 t58 t59 H => pLss t59 t58 H fun t60 H =>
  onBool t60 (pIa 1 t57 t59 H fun t61 H =>
  ldK .none H t61 fun t62 H =>
  pC call 37 [t0, t62] H fun _ H =>
  pAdd t59 (.int .i64 (.ofNat 1)) H fun t66 H =>
  q0 t0 t57 t58 t66 H) (some (.tup [], H))) n
noncomputable def S41_1 (call : CallFn) (t0 t3 : AV) (H : AHeap) : R :=
  pFa 6 t3 H fun t51 H =>
  ldK .none H t51 fun t52 H =>
  pO (aLen .sl H t52) H fun t53 H =>
  pConv .u64 t53 H fun t54 H =>
  pC call 37 [t0, t54] H fun _ H =>
  pFa 6 t3 H fun t56 H =>
  ldK .none H t56 fun t57 H =>
  pO (aLen .sl H t57) H fun t58 H =>
  S41_0 call 1000000 t0 t57 t58 (.int .i64 (.ofNat 0)) H
noncomputable def S41_2 (call : CallFn) (n : Nat) : AV → AV → AV → AV → AV → AHeap → R :=
  Nat.rec (motive := fun _ => AV → AV → AV → AV → AV → AHeap → R) (fun _ _ _ _ _ _ => none) (fun _ q1 t0 t3 t30 t31 t32 H => pLss t32 t31 H fun t33 H =>
  onBool t33 (pIa 5 t30 t32 H fun t34 H =>
  ldK (.some 5) H t34 fun t35 H =>
  pNew [(.int .i64 (.ofNat 0)), (.int .i64 (.ofNat 0)), (.int .i64 (.ofNat 0)), (.int .i64 (.ofNat 0)), (.int .i64 (.ofNat 0))] H fun t5 H =>
  stK 5 H t5 t35 fun _ H =>
  pFa 0 t5 H fun t37 H =>
  ldK .none H t37 fun t38 H =>
  pFa 1 t5 H fun t39 H =>
  ldK .none H t39 fun t40 H =>
  pFa 2 t5 H fun t41 H =>
  ldK .none H t41 fun t42 H =>
  pFa 3 t5 H fun t43 H =>
  ldK .none H t43 fun t44 H =>
  pFa 4 t5 H fun t45 H =>
  ldK .none H t45 fun t46 H =>
  pN (aBsl 1 5 [(.int .i64 (.ofNat 0))] [(0, 1, t38), (1, 1, t40), (2, 1, t42), (3, 1, t44), (4, 1, t46)]) H fun t47 H =>
  pC call 38 [t0, t47] H fun _ H =>
  pAdd t32 (.int .i64 (.ofNat 1)) H fun t49 H =>
  q1 t0 t3 t30 t31 t49 H) (S41_1 call t0 t3 H)) n
noncomputable def S41_3 (call : CallFn) (t0 t1 : AV) (H : AHeap) : R :=
  pBox t1 H fun t3 H =>
  pFa 0 t3 H fun t9 H =>
  ldK .none H t9 fun t10 H =>
  pFa 1 t3 H fun t11 H =>
  ldK .none H t11 fun t12 H =>
  pFa 2 t3 H fun t13 H =>
  ldK .none H t13 fun t14 H =>
  pFa 3 t3 H fun t15 H =>
  ldK .none H t15 fun t16 H =>
  pN (aBsl 1 4 [(.int .i64 (.ofNat 0))] [(0, 1, t10), (1, 1, t12), (2, 1, t14), (3, 1, t16)]) H fun t17 H =>
  pC call 38 [t0, t17] H fun _ H =>
  pFa 4 t3 H fun t20 H =>
  ldK .none H t20 fun t21 H =>
  pC call 39 [t0, t21] H fun _ H =>
  pFa 5 t3 H fun t24 H =>
  ldK .none H t24 fun t25 H =>
  pO (aLen .sl H t25) H fun t26 H =>
  pConv .u64 t26 H fun t27 H =>
  pC call 37 [t0, t27] H fun _ H =>
  pFa 5 t3 H fun t29 H =>
  ldK .none H t29 fun t30 H =>
  pO (aLen .sl H t30) H fun t31 H =>
  S41_2 call 1000000 t0 t3 t30 t31 (.int .i64 (.ofNat 0)) H
noncomputable def S41 : Ff := ⟨fun call l H => argA2 (fun t0 t1 => S41_3 call t0 t1 H) l⟩
/- gantline/heap.New -/
noncomputable def S42_0 (call : CallFn) (t1 t8 : AV) (H : AHeap) : R :=
  pC call 91 [t1] H fun t42 H =>
  pO (aNil t8) H fun t43 H =>
  pFa 1 t43 H fun t44 H =>
  stK 1 H t44 t42 fun _ H =>
  some (.tup [t8, (.int .i64 (.ofNat 0))], H)
noncomputable def S42_1 (call : CallFn) (n : Nat) : AV → AV → AV → AV → AV → AV → AHeap → R :=
  Nat.rec (motive := fun _ => AV → AV → AV → AV → AV → AV → AHeap → R) (fun _ _ _ _ _ _ _ => none) (fun _ q0 t1 t6 t8 t24 t25 t26 H => pLss t26 t25 H fun t27 H =>
  onBool t27 (pIa 3 t24 t26 H fun t28 H =>
  ldK (.some 3) H t28 fun t29 H =>
  pNew [(.int .i64 (.ofNat 0)), (.int .i64 (.ofNat 0)), (.int .u64 (.ofNat 0))] H fun t10 H =>
  stK 3 H t10 t29 fun _ H =>
  ldK (.some 3) H t10 fun t33 H =>
  pC call 89 [t6] H fun t32 H =>
  andR (andB (ckV (aLoad (.some 3) H t10) t33) true) (
  pC call 90 [t32, t33] H fun t34 H =>
  pExt t34 0 H fun _ H =>
  pExt t34 1 H fun t36 H =>
  pNeq t36 (.int .i64 (.ofNat 0)) H fun t38 H =>
  onBool t38 (some (.tup [.nilp, (.int .i64 (.ofNat 1))], H)) (pAdd t26 (.int .i64 (.ofNat 1)) H fun t39 H =>
  q0 t1 t6 t8 t24 t25 t39 H))) (S42_0 call t1 t8 H)) n
noncomputable def S42_2 (call : CallFn) (t0 t1 : AV) (H : AHeap) : R :=
  pC call 88 [t0] H fun t15 H =>
  pExt t15 0 H fun t16 H =>
  pExt t15 1 H fun t17 H =>
  pNeq t17 (.int .i64 (.ofNat 0)) H fun t19 H =>
  onBool t19 (some (.tup [.nilp, t17], H)) (pO (someAgg (aFill [.nilp, .nilsl, (.int .i64 (.ofNat 0))] [(0, 1, t16)])) H fun t22 H =>
  pBox t22 H fun t23 H =>
  pO (aLen .sl H t1) H fun t25 H =>
  S42_1 call 1000000 t1 t16 t23 t1 t25 (.int .i64 (.ofNat 0)) H)
noncomputable def S42 : Ff := ⟨fun call l H => argA2 (fun t0 t1 => S42_2 call t0 t1 H) l⟩
/- gantline/vm.clone -/
noncomputable def S43_0 (_ : CallFn) (t1 t2 : AV) (H : AHeap) : R :=
  ldK (.some 6) H t1 fun t60 H =>
  stK 6 H t2 t60 fun _ H =>
  ob (allM (fun o => o) [aLoad (.some 6) H t2]) fun vs => some (resV vs, H)
noncomputable def S43_1 (call : CallFn) (n : Nat) : AV → AV → AV → AV → AHeap → R :=
  Nat.rec (motive := fun _ => AV → AV → AV → AV → AHeap → R) (fun _ _ _ _ _ => none) (fun _ q0 t1 t2 t27 t28 H => pLss t28 t27 H fun t29 H =>
  onBool t29 (pFa 4 t1 H fun t31 H =>
  ldK .none H t31 fun t32 H =>
  pIa 7 t32 t28 H fun t34 H =>
  pO (aNil t34) H fun t39 H =>
  pFa 4 t39 H fun t40 H =>
  ldK .none H t40 fun t41 H =>
  pO (aNil t34) H fun t44 H =>
  pFa 5 t44 H fun t45 H =>
  ldK .none H t45 fun t46 H =>
  pO (aNil t34) H fun t49 H =>
  pFa 6 t49 H fun t50 H =>
  ldK .none H t50 fun t51 H =>
  pC call 92 [t41] H fun t42 H =>
  andR (andB (ckV (aLoad .none H t45) t46) (andB (ckV (aLoad .none H t50) t51) true)) (
  pC call 96 [t46] H fun t47 H =>
  andR (andB (ckV (aLoad .none H t50) t51) true) (
  pC call 97 [t51] H fun t52 H =>
  pO (aNil t34) H fun t53 H =>
  pFa 4 t53 H fun t54 H =>
  stK 1 H t54 t42 fun _ H =>
  pO (aNil t34) H fun t55 H =>
  pFa 5 t55 H fun t56 H =>
  stK 1 H t56 t47 fun _ H =>
  pO (aNil t34) H fun t57 H =>
  pFa 6 t57 H fun t58 H =>
  stK 1 H t58 t52 fun _ H =>
  pAdd t28 (.int .i64 (.ofNat 1)) H fun t59 H =>
  q0 t1 t2 t27 t59 H))) (S43_0 call t1 t2 H)) n
noncomputable def S43_2 (call : CallFn) (t0 : AV) (H : AHeap) : R :=
  pBox t0 H fun t1 H =>
  pNew [.nilsl, .nilsl, .nilsl, .nilsl, .nilsl, (.int .i64 (.ofNat 0))] H fun t2 H =>
  pFa 0 t1 H fun t5 H =>
  ldK .none H t5 fun t6 H =>
  pFa 1 t1 H fun t8 H =>
  ldK .none H t8 fun t9 H =>
  pFa 2 t1 H fun t11 H =>
  ldK .none H t11 fun t12 H =>
  pFa 3 t1 H fun t14 H =>
  ldK .none H t14 fun t15 H =>
  pC call 91 [t6] H fun t7 H =>
  andR (andB (ckV (aLoad .none H t8) t9) (andB (ckV (aLoad .none H t11) t12) (andB (ckV (aLoad .none H t14) t15) true))) (
  pFa 0 t1 H fun t17 H =>
  pC call 92 [t9] H fun t10 H =>
  andR (andB (ckV (aLoad .none H t11) t12) (andB (ckV (aLoad .none H t14) t15) true)) (
  pC call 93 [t12] H fun t13 H =>
  andR (andB (ckV (aLoad .none H t14) t15) true) (
  pC call 94 [t15] H fun t16 H =>
  stK 1 H t17 t7 fun _ H =>
  pFa 1 t1 H fun t18 H =>
  stK 1 H t18 t10 fun _ H =>
  pFa 2 t1 H fun t19 H =>
  stK 1 H t19 t13 fun _ H =>
  pFa 3 t1 H fun t20 H =>
  stK 1 H t20 t16 fun _ H =>
  pFa 4 t1 H fun t21 H =>
  ldK .none H t21 fun t22 H =>
  pC call 95 [t22] H fun t23 H =>
  pFa 4 t1 H fun t24 H =>
  stK 1 H t24 t23 fun _ H =>
  pFa 4 t1 H fun t25 H =>
  ldK .none H t25 fun t26 H =>
  pO (aLen .sl H t26) H fun t27 H =>
  S43_1 call 1000000 t1 t2 t27 (.int .i64 (.ofNat 0)) H)))
noncomputable def S43 : Ff := ⟨fun call l H => argA1 (fun t0 => S43_2 call t0 H) l⟩
/- gantline/sched.New -/
noncomputable def S44_0 (_ : CallFn) (t0 : AV) (H : AHeap) : R :=
  pBox t0 H fun t1 H =>
  ldK (.some 6) H t1 fun t3 H =>
  pMap H fun t4 H =>
  pO (someAgg (aFill [.nilsl, .nilsl, .nilsl, .nilsl, .nilsl, (.int .i64 (.ofNat 0)), .nilmap, (.int .i64 (.ofNat 0))] [(0, 6, t3), (6, 1, t4)])) H fun t5 H =>
  pBox t5 H fun t6 H =>
  some (t6, H)
noncomputable def S44 : Ff := ⟨fun call l H => argA1 (fun t0 => S44_0 call t0 H) l⟩
/- (*gantline/sched.Table).Add -/
noncomputable def S45_0 (call : CallFn) (t0 t1 t2 : AV) (H : AHeap) : R :=
  pO (aNil t0) H fun t11 H =>
  pFa 6 t11 H fun t12 H =>
  ldK .none H t12 fun t13 H =>
  pO (aLen .map H t13) H fun t14 H =>
  pGeq t14 (.int .i64 (.ofNat 64)) H fun t15 H =>
  onBool t15 (some (.tup [(.int .i64 (.ofNat 0)), (.int .i64 (.ofNat 2))], H)) (pO (aNil t0) H fun t18 H =>
  pFa 0 t18 H fun t19 H =>
  ldK (.some 6) H t19 fun t20 H =>
  pC call 98 [t20, t1, t2] H fun t23 H =>
  pExt t23 0 H fun t24 H =>
  pExt t23 1 H fun t25 H =>
  pNeq t25 (.int .i64 (.ofNat 0)) H fun t27 H =>
  onBool t27 (some (.tup [(.int .i64 (.ofNat 0)), t25], H)) (pO (aNil t0) H fun t30 H =>
  pFa 7 t30 H fun t31 H =>
  ldK .none H t31 fun t32 H =>
  pAdd t32 (.int .i64 (.ofNat 1)) H fun t33 H =>
  pO (aNil t0) H fun t34 H =>
  pFa 7 t34 H fun t35 H =>
  stK 1 H t35 t33 fun _ H =>
  pO (aNil t0) H fun t37 H =>
  pFa 6 t37 H fun t38 H =>
  ldK .none H t38 fun t39 H =>
  pO (aNil t0) H fun t41 H =>
  pFa 7 t41 H fun t42 H =>
  ldK .none H t42 fun t43 H =>
  pW (unitW (aMapUp .int H t39 t43 t24)) fun _ H =>
  pO (aNil t0) H fun t46 H =>
  pFa 7 t46 H fun t47 H =>
  ldK .none H t47 fun t48 H =>
  some (.tup [t48, (.int .i64 (.ofNat 0))], H)))
noncomputable def S45 : Ff := ⟨fun call l H => argA3 (fun t0 t1 t2 => S45_0 call t0 t1 t2 H) l⟩
/- (*gantline/vm.Machine).settle -/
noncomputable def S46_0 (_ : CallFn) (t0 t7 t18 : AV) (H : AHeap) : R :=
  pPick t7 t18 (.bool false) H fun t19 H =>
  onBool t19 (pO (aNil t0) H fun t21 H =>
  pFa 11 t21 H fun t22 H =>
  stK 1 H t22 (.int .i64 (.ofNat 3)) fun _ H =>
  some (.tup [], H)) (some (.tup [], H))
noncomputable def S46_1 (call : CallFn) (t0 t7 t17 : AV) (H : AHeap) : R :=
  guardA t7 true (pEql t17 (.int .i64 (.ofNat 0)) H fun t18 H =>
  S46_0 call t0 t7 t18 H) (S46_0 call t0 t7 U H)
noncomputable def S46_2 (call : CallFn) (t0 t7 t16 : AV) (H : AHeap) : R :=
  guardA t7 true (pO (aLen .sl H t16) H fun t17 H =>
  S46_1 call t0 t7 t17 H) (S46_1 call t0 t7 U H)
noncomputable def S46_3 (call : CallFn) (t0 t7 t11 t15 : AV) (H : AHeap) : R :=
  guardA t7 true (pC call 99 [t11, t15] H fun t16 H =>
  S46_2 call t0 t7 t16 H) (S46_2 call t0 t7 U H)
noncomputable def S46_4 (call : CallFn) (t0 t7 t11 t14 : AV) (H : AHeap) : R :=
  guardA t7 true (ldK .none H t14 fun t15 H =>
  S46_3 call t0 t7 t11 t15 H) (S46_3 call t0 t7 t11 U H)
noncomputable def S46_5 (call : CallFn) (t0 t7 t11 t13 : AV) (H : AHeap) : R :=
  guardA t7 true (pFa 6 t13 H fun t14 H =>
  S46_4 call t0 t7 t11 t14 H) (S46_4 call t0 t7 t11 U H)
noncomputable def S46_6 (call : CallFn) (t0 t7 t11 t12 : AV) (H : AHeap) : R :=
  guardA t7 true (pO (aNil t12) H fun t13 H =>
  S46_5 call t0 t7 t11 t13 H) (S46_5 call t0 t7 t11 U H)
noncomputable def S46_7 (call : CallFn) (t0 t7 t11 : AV) (H : AHeap) : R :=
  guardA t7 true (S46_6 call t0 t7 t11 t0 H) (S46_6 call t0 t7 t11 U H)
noncomputable def S46_8 (call : CallFn) (t0 t7 t10 : AV) (H : AHeap) : R :=
  guardA t7 true (ldK .none H t10 fun t11 H =>
  S46_7 call t0 t7 t11 H) (S46_7 call t0 t7 U H)
noncomputable def S46_9 (call : CallFn) (t0 t7 t9 : AV) (H : AHeap) : R :=
  guardA t7 true (pFa 7 t9 H fun t10 H =>
  S46_8 call t0 t7 t10 H) (S46_8 call t0 t7 U H)
noncomputable def S46_10 (call : CallFn) (t0 t7 t8 : AV) (H : AHeap) : R :=
  guardA t7 true (pO (aNil t8) H fun t9 H =>
  S46_9 call t0 t7 t9 H) (S46_9 call t0 t7 U H)
noncomputable def S46_11 (call : CallFn) (t0 : AV) (H : AHeap) : R :=
  pO (aNil t0) H fun t3 H =>
  pFa 11 t3 H fun t4 H =>
  ldK .none H t4 fun t5 H =>
  pEql t5 (.int .i64 (.ofNat 0)) H fun t6 H =>
  guardA t6 true (S46_10 call t0 t6 t0 H) (S46_10 call t0 t6 U H)
noncomputable def S46 : Ff := ⟨fun call l H => argA1 (fun t0 => S46_11 call t0 H) l⟩
/- (*gantline/vm.Machine).End -/
noncomputable def S47_0 (_ : CallFn) (t0 : AV) (H : AHeap) : R :=
  pO (aNil t0) H fun t5 H =>
  pFa 11 t5 H fun t6 H =>
  ldK .none H t6 fun t7 H =>
  pO (aNil t0) H fun t9 H =>
  pFa 12 t9 H fun t10 H =>
  ldK .none H t10 fun t11 H =>
  some (.tup [t7, t11], H)
noncomputable def S47 : Ff := ⟨fun call l H => argA1 (fun t0 => S47_0 call t0 H) l⟩
/- (*gantline/vm.Machine).Enabled -/
noncomputable def S48_0 (call : CallFn) (t0 : AV) (H : AHeap) : R :=
  pO (aNil t0) H fun t4 H =>
  pFa 11 t4 H fun t5 H =>
  ldK .none H t5 fun t6 H =>
  pNeq t6 (.int .i64 (.ofNat 0)) H fun t7 H =>
  onBool t7 (some (.nilsl, H)) (pO (aNil t0) H fun t9 H =>
  pFa 7 t9 H fun t10 H =>
  ldK .none H t10 fun t11 H =>
  pO (aNil t0) H fun t13 H =>
  pFa 6 t13 H fun t14 H =>
  ldK .none H t14 fun t15 H =>
  pC call 99 [t11, t15] H fun t16 H =>
  some (t16, H))
noncomputable def S48 : Ff := ⟨fun call l H => argA1 (fun t0 => S48_0 call t0 H) l⟩
/- (*gantline/vm.Machine).Do -/
noncomputable def S50_0 (call : CallFn) (t0 : AV) (H : AHeap) : R :=
  pC call 46 [t0] H fun _ H =>
  some ((.bool true), H)
noncomputable def S50_1 (call : CallFn) (t0 t1 t2 t7 t9 t11 t82 t87 : AV) (H : AHeap) : R :=
  pPick t82 t87 (.bool false) H fun t88 H =>
  onBool t88 (pO (aNil t0) H fun t91 H =>
  pFa 10 t91 H fun t92 H =>
  ldK .none H t92 fun t93 H =>
  pFa 0 t9 H fun t95 H =>
  ldK .none H t95 fun t96 H =>
  pFa 0 t11 H fun t97 H =>
  ldK .none H t97 fun t98 H =>
  pFa 1 t11 H fun t99 H =>
  ldK .none H t99 fun t100 H =>
  pIa 3 t7 t2 H fun t103 H =>
  ldK (.some 3) H t103 fun t104 H =>
  pO (someAgg (aFill [(.int .i64 (.ofNat 0)), (.int .i64 (.ofNat 0)), (.int .i64 (.ofNat 0)), (.int .i64 (.ofNat 0)), (.int .i64 (.ofNat 0)), (.int .i64 (.ofNat 0)), (.int .i64 (.ofNat 0))] [(0, 1, t1), (1, 1, t96), (2, 1, t98), (3, 1, t100), (4, 3, t104)])) H fun t105 H =>
  pN (aBsl 7 1 [(.int .i64 (.ofNat 0)), (.int .i64 (.ofNat 0)), (.int .i64 (.ofNat 0)), (.int .i64 (.ofNat 0)), (.int .i64 (.ofNat 0)), (.int .i64 (.ofNat 0)), (.int .i64 (.ofNat 0))] [(0, 7, t105)]) H fun t106 H =>
  pW (aApp 7 56 H t93 t106) fun t107 H =>
  pO (aNil t0) H fun t108 H =>
  pFa 10 t108 H fun t109 H =>
  stK 1 H t109 t107 fun _ H =>
  S50_0 call t0 H) (S50_0 call t0 H)
noncomputable def S50_2 (call : CallFn) (t0 t1 t2 t7 t9 t11 t75 t80 : AV) (H : AHeap) : R :=
  pPick t75 t80 (.bool false) H fun t81 H =>
  guardA t81 true (pO (aNil t0) H fun t84 H =>
  pFa 11 t84 H fun t85 H =>
  ldK .none H t85 fun t86 H =>
  pNeq t86 (.int .i64 (.ofNat 4)) H fun t87 H =>
  S50_1 call t0 t1 t2 t7 t9 t11 t81 t87 H) (S50_1 call t0 t1 t2 t7 t9 t11 t81 U H)
noncomputable def S50_3 (call : CallFn) (t0 t1 t2 t7 t20 t24 : AV) (H : AHeap) : R :=
  pPick t20 (.bool true) t24 H fun t25 H =>
  onBool t25 (some ((.bool false), H)) (pO (aNil t0) H fun t27 H =>
  pFa 7 t27 H fun t28 H =>
  ldK .none H t28 fun t29 H =>
  pC call 103 [t29, t1] H fun t31 H =>
  pO (aNil t0) H fun t35 H =>
  pFa 0 t35 H fun t36 H =>
  ldK (.some 6) H t36 fun t37 H =>
  pC call 104 [t31, t37] H fun t38 H =>
  pExt t38 0 H fun t39 H =>
  pExt t38 1 H fun _ H =>
  pNew [(.int .i64 (.ofNat 0)), (.int .i64 (.ofNat 0)), (.int .i64 (.ofNat 0)), (.int .i64 (.ofNat 0)), (.int .i64 (.ofNat 0))] H fun t9 H =>
  stK 5 H t9 t39 fun _ H =>
  pC call 105 [t31] H fun t43 H =>
  pExt t43 0 H fun t44 H =>
  pExt t43 1 H fun _ H =>
  pNew [(.int .i64 (.ofNat 0)), (.int .i64 (.ofNat 0)), .nilsl] H fun t11 H =>
  stK 3 H t11 t44 fun _ H =>
  pFa 0 t9 H fun t46 H =>
  ldK .none H t46 fun t47 H =>
  pC call 107 [t31] H fun t49 H =>
  andR (andB (ckV (aLoad .none H t46) t47) true) (
  pC call 106 [t47, t49] H fun t50 H =>
  ldK (.some 5) H t9 fun t54 H =>
  pO (aNil t0) H fun t56 H =>
  pFa 0 t56 H fun t57 H =>
  pFa 4 t57 H fun t58 H =>
  ldK .none H t58 fun t59 H =>
  pFa 0 t11 H fun t60 H =>
  ldK .none H t60 fun t61 H =>
  pIa 7 t59 t61 H fun t62 H =>
  ldK (.some 7) H t62 fun t63 H =>
  pFa 1 t11 H fun t64 H =>
  ldK .none H t64 fun t65 H =>
  pIa 3 t7 t2 H fun t68 H =>
  ldK (.some 3) H t68 fun t69 H =>
  pO (someAgg (aFill [.nilp, (.int .i64 (.ofNat 0)), .nilp, (.int .i64 (.ofNat 0)), (.int .i64 (.ofNat 0)), (.int .i64 (.ofNat 0)), (.int .i64 (.ofNat 0)), (.int .i64 (.ofNat 0)), (.int .i64 (.ofNat 0)), (.int .i64 (.ofNat 0)), (.int .i64 (.ofNat 0)), (.int .i64 (.ofNat 0)), .nilsl, .nilsl, .nilsl, (.int .i64 (.ofNat 0)), (.int .i64 (.ofNat 0)), (.int .i64 (.ofNat 0)), (.int .i64 (.ofNat 0))] [(0, 1, t0), (1, 1, t1), (2, 1, t31), (3, 5, t54), (8, 7, t63), (15, 1, t65), (16, 3, t69)])) H fun t70 H =>
  pBox t70 H fun t71 H =>
  pC call 108 [t71] H fun _ H =>
  guardA t50 true (pO (aNil t0) H fun t77 H =>
  pFa 11 t77 H fun t78 H =>
  ldK .none H t78 fun t79 H =>
  pNeq t79 (.int .i64 (.ofNat 2)) H fun t80 H =>
  S50_2 call t0 t1 t2 t7 t9 t11 t50 t80 H) (S50_2 call t0 t1 t2 t7 t9 t11 t50 U H)))
noncomputable def S50_4 (call : CallFn) (t0 t1 t2 : AV) (H : AHeap) : R :=
  pC call 102 [t0, t1] H fun t17 H =>
  pLss t2 (.int .i64 (.ofNat 0)) H fun t19 H =>
  guardA t19 false (pO (aLen .sl H t17) H fun t23 H =>
  pGeq t2 t23 H fun t24 H =>
  S50_3 call t0 t1 t2 t17 t19 t24 H) (S50_3 call t0 t1 t2 t17 t19 U H)
noncomputable def S50 : Ff := ⟨fun call l H => argA3 (fun t0 t1 t2 => S50_4 call t0 t1 t2 H) l⟩
/- (*gantline/vm.Machine).Ways -/
noncomputable def S51_0 (call : CallFn) (t0 t1 : AV) (H : AHeap) : R :=
  pC call 102 [t0, t1] H fun t7 H =>
  pO (aLen .sl H t7) H fun t8 H =>
  some (t8, H)
noncomputable def S51 : Ff := ⟨fun call l H => argA2 (fun t0 t1 => S51_0 call t0 t1 H) l⟩
/- (*gantline/vm.Machine).Out -/
noncomputable def S52_0 (call : CallFn) (t0 : AV) (H : AHeap) : R :=
  pO (aNil t0) H fun t4 H =>
  pFa 9 t4 H fun t5 H =>
  ldK .none H t5 fun t6 H =>
  pC call 93 [t6] H fun t7 H =>
  some (t7, H)
noncomputable def S52 : Ff := ⟨fun call l H => argA1 (fun t0 => S52_0 call t0 H) l⟩
/- (*gantline/vm.Machine).Heap -/
noncomputable def S53_0 (_ : CallFn) (t0 : AV) (H : AHeap) : R :=
  pO (aNil t0) H fun t4 H =>
  pFa 6 t4 H fun t5 H =>
  ldK .none H t5 fun t6 H =>
  some (t6, H)
noncomputable def S53 : Ff := ⟨fun call l H => argA1 (fun t0 => S53_0 call t0 H) l⟩
/- (*gantline/heap.Heap).Cycle -/
noncomputable def S54_0 (_ : CallFn) (t0 : AV) (H : AHeap) : R :=
  pO (aNil t0) H fun t4 H =>
  pFa 0 t4 H fun t5 H =>
  ldK .none H t5 fun t6 H =>
  some (t6, H)
noncomputable def S54 : Ff := ⟨fun call l H => argA1 (fun t0 => S54_0 call t0 H) l⟩
/- (*gantline/cycle.Cycle).Done -/
noncomputable def S55_0 (_ : CallFn) (t0 : AV) (H : AHeap) : R :=
  pO (aNil t0) H fun t4 H =>
  pFa 6 t4 H fun t5 H =>
  ldK .none H t5 fun t6 H =>
  some (t6, H)
noncomputable def S55 : Ff := ⟨fun call l H => argA1 (fun t0 => S55_0 call t0 H) l⟩
/- (*gantline/heap.Heap).Forced -/
noncomputable def S56_0 (_ : CallFn) (t0 : AV) (H : AHeap) : R :=
  pO (aNil t0) H fun t4 H =>
  pFa 2 t4 H fun t5 H =>
  ldK .none H t5 fun t6 H =>
  some (t6, H)
noncomputable def S56 : Ff := ⟨fun call l H => argA1 (fun t0 => S56_0 call t0 H) l⟩
/- (*gantline/vm.Machine).Acts -/
noncomputable def S57_0 (call : CallFn) (t0 : AV) (H : AHeap) : R :=
  pO (aNil t0) H fun t4 H =>
  pFa 10 t4 H fun t5 H =>
  ldK .none H t5 fun t6 H =>
  pC call 109 [t6] H fun t7 H =>
  some (t7, H)
noncomputable def S57 : Ff := ⟨fun call l H => argA1 (fun t0 => S57_0 call t0 H) l⟩
/- gantline/verify.Without -/
noncomputable def S58_0 (_ : CallFn) (t4 : AV) (H : AHeap) : R :=
  pO (someAgg (aFill [(.int .i64 (.ofNat 0)), (.int .i64 (.ofNat 0)), (.int .i64 (.ofNat 0))] [])) H fun t92 H =>
  stK 3 H t4 t92 fun _ H =>
  ob (allM (fun o => o) [aLoad (.some 3) H t4, some (.bool true)]) fun vs => some (resV vs, H)
noncomputable def S58_2 (_ : CallFn) (q0 : AV → AV → AV → AV → AV → AV → AV → AHeap → R) (t1 t2 t4 t9 t41 t42 t43 : AV) (H : AHeap) : R :=
  pAdd t43 (.int .i64 (.ofNat 1)) H fun t91 H =>
  q0 t1 t2 t4 t9 t41 t42 t91 H
noncomputable def S58_4 (_ : CallFn) (q1 : AV → AV → AV → AV → AV → AV → AV → AV → AV → AV → AV → AV → AHeap → R) (t1 t2 t4 t9 t10 t12 t41 t42 t43 t57 t58 t59 : AV) (H : AHeap) : R :=
  pAdd t59 (.int .i64 (.ofNat 1)) H fun t90 H =>
  q1 t1 t2 t4 t9 t10 t12 t41 t42 t43 t57 t58 t90 H
noncomputable def S58_6 (_ : CallFn) (q2 : AV → AV → AV → AV → AV → AV → AV → AV → AV → AV → AV → AV → AV → AV → AHeap → R) (t1 t2 t4 t9 t10 t12 t13 t15 t41 t42 t43 t57 t58 t59 t80 t84 : AV) (H : AHeap) : R :=
  pPick t80 t84 (.bool false) H fun t85 H =>
  onBool t85 (pO (someAgg (aFill [(.int .i64 (.ofNat 0)), (.int .i64 (.ofNat 0)), (.int .i64 (.ofNat 0))] [(0, 1, t10), (1, 1, t13), (2, 1, t15)])) H fun t89 H =>
  stK 3 H t4 t89 fun _ H =>
  ob (allM (fun o => o) [aLoad (.some 3) H t4, some (.bool false)]) fun vs => some (resV vs, H)) (pAdd t15 (.int .i64 (.ofNat 1)) H fun t75 H =>
  q2 t1 t2 t4 t9 t10 t12 t13 t75 t41 t42 t43 t57 t58 t59 H)
noncomputable def S58_5 (call : CallFn) (q1 : AV → AV → AV → AV → AV → AV → AV → AV → AV → AV → AV → AV → AHeap → R) (n : Nat) : AV → AV → AV → AV → AV → AV → AV → AV → AV → AV → AV → AV → AV → AV → AHeap → R :=
  Nat.rec (motive := fun _ => AV → AV → AV → AV → AV → AV → AV → AV → AV → AV → AV → AV → AV → AV → AHeap → R) (fun _ _ _ _ _ _ _ _ _ _ _ _ _ _ _ => none) (fun _ q2 t1 t2 t4 t9 t10 t12 t13 t15 t41 t42 t43 t57 t58 t59 H => pLeq t15 (.int .i64 (.ofNat 10)) H fun t73 H =>
  onBool t73 (pC call 112 [t1, t15] H fun t78 H =>
  pO (aUn .not t78) H fun t79 H =>
  guardA t79 true (pC call 113 [t12, t15] H fun t83 H =>
  pO (aUn .not t83) H fun t84 H =>
  S58_6 call q2 t1 t2 t4 t9 t10 t12 t13 t15 t41 t42 t43 t57 t58 t59 t79 t84 H) (S58_6 call q2 t1 t2 t4 t9 t10 t12 t13 t15 t41 t42 t43 t57 t58 t59 t79 U H)) (S58_4 call q1 t1 t2 t4 t9 t10 t12 t41 t42 t43 t57 t58 t59 H)) n
noncomputable def S58_3 (call : CallFn) (q0 : AV → AV → AV → AV → AV → AV → AV → AHeap → R) (n : Nat) : AV → AV → AV → AV → AV → AV → AV → AV → AV → AV → AV → AV → AHeap → R :=
  Nat.rec (motive := fun _ => AV → AV → AV → AV → AV → AV → AV → AV → AV → AV → AV → AV → AHeap → R) (fun _ _ _ _ _ _ _ _ _ _ _ _ _ => none) (fun _ q1 t1 t2 t4 t9 t10 t12 t41 t42 t43 t57 t58 t59 H => pLss t59 t58 H fun t60 H =>
  onBool t60 (pIa 5 t57 t59 H fun t62 H =>
  ldK (.some 5) H t62 fun t63 H =>
  pNew [(.int .i64 (.ofNat 0)), (.int .i64 (.ofNat 0)), (.int .i64 (.ofNat 0)), (.int .i64 (.ofNat 0)), (.int .i64 (.ofNat 0))] H fun t14 H =>
  stK 5 H t14 t63 fun _ H =>
  ldK (.some 5) H t14 fun t67 H =>
  pO (aNil t12) H fun t68 H =>
  pFa 16 t68 H fun t69 H =>
  stK 1 H t69 t59 fun _ H =>
  andR (andB (ckV (aLoad (.some 5) H t14) t67) true) (
  pO (aNil t12) H fun t70 H =>
  pFa 17 t70 H fun t71 H =>
  stK 5 H t71 t67 fun _ H =>
  S58_5 call q1 1000000 t1 t2 t4 t9 t10 t12 t59 (.int .i64 (.ofNat 4)) t41 t42 t43 t57 t58 t59 H)) (S58_2 call q0 t1 t2 t4 t9 t41 t42 t43 H)) n
noncomputable def S58_1 (call : CallFn) (n : Nat) : AV → AV → AV → AV → AV → AV → AV → AHeap → R :=
  Nat.rec (motive := fun _ => AV → AV → AV → AV → AV → AV → AV → AHeap → R) (fun _ _ _ _ _ _ _ _ => none) (fun _ q0 t1 t2 t4 t9 t41 t42 t43 H => pLss t43 t42 H fun t44 H =>
  onBool t44 (pIa 7 t41 t43 H fun t46 H =>
  ldK (.some 7) H t46 fun t47 H =>
  pNew [(.int .i64 (.ofNat 0)), (.int .i64 (.ofNat 0)), (.int .i64 (.ofNat 0)), (.int .i64 (.ofNat 0)), .nilsl, .nilsl, .nilsl] H fun t11 H =>
  stK 7 H t11 t47 fun _ H =>
  ldK (.some 6) H t2 fun t48 H =>
  ldK (.some 7) H t11 fun t49 H =>
  ldK (.some 6) H t2 fun t50 H =>
  ldK (.some 7) H t11 fun t51 H =>
  pC call 85 [t50, t51] H fun t52 H =>
  andR (andB (ckV (aLoad (.some 6) H t2) t48) (andB (ckV (aLoad (.some 7) H t11) t49) true)) (
  pO (someAgg (aFill [.nilsl, .nilsl, .nilsl, .nilsl, .nilsl, (.int .i64 (.ofNat 0)), (.int .i64 (.ofNat 0)), (.int .i64 (.ofNat 0)), (.int .i64 (.ofNat 0)), (.int .i64 (.ofNat 0)), .nilsl, .nilsl, .nilsl, .nilsl, .nilsl, .nilsl, (.int .i64 (.ofNat 0)), (.int .i64 (.ofNat 0)), (.int .i64 (.ofNat 0)), (.int .i64 (.ofNat 0)), (.int .i64 (.ofNat 0)), (.int .i64 (.ofNat 0))] [(0, 6, t48), (6, 7, t49), (13, 1, t52), (15, 1, t9)])) H fun t54 H =>
  pBox t54 H fun t55 H =>
  pFa 5 t11 H fun t56 H =>
  ldK .none H t56 fun t57 H =>
  pO (aLen .sl H t57) H fun t58 H =>
  S58_3 call q0 1000000 t1 t2 t4 t9 t43 t55 t41 t42 t43 t57 t58 (.int .i64 (.ofNat 0)) H)) (S58_0 call t4 H)) n
noncomputable def S58_7 (call : CallFn) (t1 t2 t4 : AV) (H : AHeap) : R :=
  pFa 3 t2 H fun t36 H =>
  ldK .none H t36 fun t37 H =>
  pO (aLen .sl H t37) H fun t38 H =>
  pN (aMksl 1 1 [(.bool false)] t38 t38) H fun t39 H =>
  pFa 4 t2 H fun t40 H =>
  ldK .none H t40 fun t41 H =>
  pO (aLen .sl H t41) H fun t42 H =>
  S58_1 call 1000000 t1 t2 t4 t39 t41 t42 (.int .i64 (.ofNat 0)) H
noncomputable def S58_8 (call : CallFn) (n : Nat) : AV → AV → AV → AV → AV → AV → AHeap → R :=
  Nat.rec (motive := fun _ => AV → AV → AV → AV → AV → AV → AHeap → R) (fun _ _ _ _ _ _ _ => none) (fun _ q3 t1 t2 t4 t23 t24 t25 H => pLss t25 t24 H fun t26 H =>
  onBool t26 (pIa 7 t23 t25 H fun t28 H =>
  ldK (.some 7) H t28 fun t29 H =>
  pNew [(.int .i64 (.ofNat 0)), (.int .i64 (.ofNat 0)), (.int .i64 (.ofNat 0)), (.int .i64 (.ofNat 0)), .nilsl, .nilsl, .nilsl] H fun t8 H =>
  stK 7 H t8 t29 fun _ H =>
  ldK (.some 7) H t8 fun t30 H =>
  pC call 111 [t30] H fun t31 H =>
  pO (aUn .not t31) H fun t32 H =>
  onBool t32 (pO (someAgg (aFill [(.int .i64 (.ofNat 0)), (.int .i64 (.ofNat 0)), (.int .i64 (.ofNat 0))] [(0, 1, t25), (1, 1, (.int .i64 (.negSucc 0))), (2, 1, (.int .i64 (.ofNat 3)))])) H fun t34 H =>
  stK 3 H t4 t34 fun _ H =>
  ob (allM (fun o => o) [aLoad (.some 3) H t4, some (.bool false)]) fun vs => some (resV vs, H)) (pAdd t25 (.int .i64 (.ofNat 1)) H fun t35 H =>
  q3 t1 t2 t4 t23 t24 t35 H)) (S58_7 call t1 t2 t4 H)) n
noncomputable def S58_9 (call : CallFn) (t0 t1 : AV) (H : AHeap) : R :=
  pBox t0 H fun t2 H =>
  pNew [(.int .i64 (.ofNat 0)), (.int .i64 (.ofNat 0)), (.int .i64 (.ofNat 0))] H fun t4 H =>
  ldK (.some 6) H t2 fun t16 H =>
  pC call 110 [t16] H fun t17 H =>
  pGtr t17 (.int .i64 (.ofNat 0)) H fun t19 H =>
  onBool t19 (pO (someAgg (aFill [(.int .i64 (.ofNat 0)), (.int .i64 (.ofNat 0)), (.int .i64 (.ofNat 0))] [(0, 1, (.int .i64 (.negSucc 0))), (1, 1, (.int .i64 (.negSucc 0))), (2, 1, t17)])) H fun t21 H =>
  stK 3 H t4 t21 fun _ H =>
  ob (allM (fun o => o) [aLoad (.some 3) H t4, some (.bool false)]) fun vs => some (resV vs, H)) (pFa 4 t2 H fun t22 H =>
  ldK .none H t22 fun t23 H =>
  pO (aLen .sl H t23) H fun t24 H =>
  S58_8 call 1000000 t1 t2 t4 t23 t24 (.int .i64 (.ofNat 0)) H)
noncomputable def S58 : Ff := ⟨fun call l H => argA2 (fun t0 t1 => S58_9 call t0 t1 H) l⟩
/- gantline/lex.blanks -/
noncomputable def S59_1 (call : CallFn) (q0 : AV → AV → AHeap → R) (t0 t3 t24 t26 : AV) (H : AHeap) : R :=
  pPick t24 (.bool true) t26 H fun t27 H =>
  onBool t27 (pAdd t3 (.int .i64 (.ofNat 1)) H fun t29 H =>
  q0 t0 t29 H) (pO (aSliceS t0 (.some t3) .none) H fun t33 H =>
  pC call 114 [t33, (.str [47, 47])] H fun t34 H =>
  onBool t34 (pO (aSliceS t0 (.some t3) .none) H fun t38 H =>
  pC call 115 [t38, (.fn 116 [] [])] H fun t39 H =>
  pAdd t3 t39 H fun t40 H =>
  q0 t0 t40 H) (some (t3, H)))
noncomputable def S59_2 (call : CallFn) (q0 : AV → AV → AHeap → R) (t0 t3 t4 t20 t22 : AV) (H : AHeap) : R :=
  pPick t20 (.bool true) t22 H fun t23 H =>
  guardA t23 false (pEql t4 (.int .u8 (.ofNat 13)) H fun t26 H =>
  S59_1 call q0 t0 t3 t23 t26 H) (S59_1 call q0 t0 t3 t23 U H)
noncomputable def S59_3 (call : CallFn) (q0 : AV → AV → AHeap → R) (t0 t3 t4 t16 t18 : AV) (H : AHeap) : R :=
  pPick t16 (.bool true) t18 H fun t19 H =>
  guardA t19 false (pEql t4 (.int .u8 (.ofNat 10)) H fun t22 H =>
  S59_2 call q0 t0 t3 t4 t19 t22 H) (S59_2 call q0 t0 t3 t4 t19 U H)
noncomputable def S59_0 (call : CallFn) (n : Nat) : AV → AV → AHeap → R :=
  Nat.rec (motive := fun _ => AV → AV → AHeap → R) (fun _ _ _ => none) (fun _ q0 t0 t3 H => pO (aLen .str H t0) H fun t7 H =>
  pLss t3 t7 H fun t8 H =>
  onBool t8 (pO (aIdxS t0 t3) H fun t11 H =>
  pEql t11 (.int .u8 (.ofNat 32)) H fun t15 H =>
  guardA t15 false (pEql t11 (.int .u8 (.ofNat 9)) H fun t18 H =>
  S59_3 call q0 t0 t3 t11 t15 t18 H) (S59_3 call q0 t0 t3 t11 t15 U H)) (some (t3, H))) n
noncomputable def S59 : Ff := ⟨fun call l H => argA1 (fun t0 => S59_0 call 1000000 t0 (.int .i64 (.ofNat 0)) H) l⟩
/- gantline/lex.word -/
noncomputable def S60_0 (_ : CallFn) (t2 : AV) (H : AHeap) : R :=
  pO (someAgg (aFill [(.int .i64 (.ofNat 0)), (.str []), (.int .i64 (.ofNat 0))] [])) H fun t63 H =>
  stK 3 H t2 t63 fun _ H =>
  ob (allM (fun o => o) [aLoad (.some 3) H t2]) fun vs => some (resV vs, H)
noncomputable def S60_1 (call : CallFn) (n : Nat) : AV → AV → AV → AV → AV → AHeap → R :=
  Nat.rec (motive := fun _ => AV → AV → AV → AV → AV → AHeap → R) (fun _ _ _ _ _ _ => none) (fun _ q0 t0 t2 t51 t52 t53 H => pLss t53 t52 H fun t54 H =>
  onBool t54 (pIa 1 t51 t53 H fun t55 H =>
  ldK .none H t55 fun t56 H =>
  pC call 114 [t0, t56] H fun t59 H =>
  onBool t59 (pO (someAgg (aFill [(.int .i64 (.ofNat 0)), (.str []), (.int .i64 (.ofNat 0))] [(0, 1, (.int .i64 (.ofNat 4))), (1, 1, t56)])) H fun t61 H =>
  stK 3 H t2 t61 fun _ H =>
  ob (allM (fun o => o) [aLoad (.some 3) H t2]) fun vs => some (resV vs, H)) (pAdd t53 (.int .i64 (.ofNat 1)) H fun t62 H =>
  q0 t0 t2 t51 t52 t62 H)) (S60_0 call t2 H)) n
noncomputable def S60_2 (_ : CallFn) (t2 t3 : AV) (H : AHeap) : R :=
  pFa 1 t3 H fun t22 H =>
  ldK .none H t22 fun t23 H =>
  pO (aLen .str H t23) H fun t24 H =>
  pGtr t24 (.int .i64 (.ofNat 64)) H fun t25 H =>
  onBool t25 (pO (someAgg (aFill [(.int .i64 (.ofNat 0)), (.str []), (.int .i64 (.ofNat 0))] [])) H fun t26 H =>
  stK 3 H t2 t26 fun _ H =>
  ob (allM (fun o => o) [aLoad (.some 3) H t2]) fun vs => some (resV vs, H)) (ldK (.some 3) H t3 fun t27 H =>
  stK 3 H t2 t27 fun _ H =>
  ob (allM (fun o => o) [aLoad (.some 3) H t2]) fun vs => some (resV vs, H))
noncomputable def S60_3 (_ : CallFn) (t2 t4 t45 t47 : AV) (H : AHeap) : R :=
  pPick t45 (.bool true) t47 H fun t48 H =>
  onBool t48 (pO (someAgg (aFill [(.int .i64 (.ofNat 0)), (.str []), (.int .i64 (.ofNat 0))] [])) H fun t49 H =>
  stK 3 H t2 t49 fun _ H =>
  ob (allM (fun o => o) [aLoad (.some 3) H t2]) fun vs => some (resV vs, H)) (ldK (.some 3) H t4 fun t50 H =>
  stK 3 H t2 t50 fun _ H =>
  ob (allM (fun o => o) [aLoad (.some 3) H t2]) fun vs => some (resV vs, H))
noncomputable def S60_4 (call : CallFn) (t0 : AV) (H : AHeap) : R :=
  pNew [(.int .i64 (.ofNat 0)), (.str []), (.int .i64 (.ofNat 0))] H fun t2 H =>
  pO (aIdxS t0 (.int .i64 (.ofNat 0))) H fun t11 H =>
  pC call 117 [t11] H fun t12 H =>
  onBool t12 (pC call 115 [t0, (.fn 118 [] [])] H fun t15 H =>
  pO (aSliceS t0 .none (.some t15)) H fun t16 H =>
  pO (someAgg (aFill [(.int .i64 (.ofNat 0)), (.str []), (.int .i64 (.ofNat 0))] [(0, 1, (.int .i64 (.ofNat 1))), (1, 1, t16)])) H fun t17 H =>
  pNew [(.int .i64 (.ofNat 0)), (.str []), (.int .i64 (.ofNat 0))] H fun t3 H =>
  stK 3 H t3 t17 fun _ H =>
  pFa 1 t3 H fun t18 H =>
  ldK .none H t18 fun t19 H =>
  pC call 119 [t19] H fun t20 H =>
  onBool t20 (pFa 0 t3 H fun t21 H =>
  stK 1 H t21 (.int .i64 (.ofNat 2)) fun _ H =>
  S60_2 call t2 t3 H) (S60_2 call t2 t3 H)) (pO (aIdxS t0 (.int .i64 (.ofNat 0))) H fun t30 H =>
  pC call 120 [t30] H fun t31 H =>
  onBool t31 (pC call 115 [t0, (.fn 120 [] [])] H fun t34 H =>
  pO (aSliceS t0 .none (.some t34)) H fun t35 H =>
  pO (someAgg (aFill [(.int .i64 (.ofNat 0)), (.str []), (.int .i64 (.ofNat 0))] [(0, 1, (.int .i64 (.ofNat 3))), (1, 1, t35)])) H fun t36 H =>
  pNew [(.int .i64 (.ofNat 0)), (.str []), (.int .i64 (.ofNat 0))] H fun t4 H =>
  stK 3 H t4 t36 fun _ H =>
  pFa 1 t4 H fun t38 H =>
  ldK .none H t38 fun t39 H =>
  pC call 121 [t39, (.int .i64 (.ofNat 10)), (.int .i64 (.ofNat 64))] H fun t40 H =>
  pExt t40 0 H fun t41 H =>
  pExt t40 1 H fun t42 H =>
  pO (aEq true .ifc t42 .nilif) H fun t44 H =>
  guardA t44 false (pGtr t41 (.int .u64 (.ofNat 4611686018427387903)) H fun t47 H =>
  S60_3 call t2 t4 t44 t47 H) (S60_3 call t2 t4 t44 U H)) (pC call 122 [] H fun t51 H =>
  pO (aLen .sl H t51) H fun t52 H =>
  S60_1 call 1000000 t0 t2 t51 t52 (.int .i64 (.ofNat 0)) H))
noncomputable def S60 : Ff := ⟨fun call l H => argA1 (fun t0 => S60_4 call t0 H) l⟩
/- (*gantline/parse.parser).node -/
noncomputable def S61_0 (call : CallFn) (t0 t1 : AV) (H : AHeap) : R :=
  pNew [(.str []), (.str []), (.int .i64 (.ofNat 0)), .nilsl] H fun t4 H =>
  pC call 62 [t0] H fun t7 H =>
  pO (aFld 2 .none t7) H fun t8 H =>
  pO (someAgg (aFill [(.str []), (.str []), (.int .i64 (.ofNat 0)), .nilsl] [(0, 1, t1), (2, 1, t8)])) H fun t9 H =>
  stK 4 H t4 t9 fun _ H =>
  ob (allM (fun o => o) [aLoad (.some 4) H t4]) fun vs => some (resV vs, H)
noncomputable def S61 : Ff := ⟨fun call l H => argA2 (fun t0 t1 => S61_0 call t0 t1 H) l⟩
/- (*gantline/parse.parser).word -/
noncomputable def S62_0 (_ : CallFn) (t0 : AV) (H : AHeap) : R :=
  pNew [(.int .i64 (.ofNat 0)), (.str []), (.int .i64 (.ofNat 0))] H fun t2 H =>
  pO (aNil t0) H fun t4 H =>
  pFa 0 t4 H fun t5 H =>
  ldK .none H t5 fun t6 H =>
  pO (aNil t0) H fun t8 H =>
  pFa 1 t8 H fun t9 H =>
  ldK .none H t9 fun t10 H =>
  pIa 3 t6 t10 H fun t11 H =>
  ldK (.some 3) H t11 fun t12 H =>
  stK 3 H t2 t12 fun _ H =>
  ob (allM (fun o => o) [aLoad (.some 3) H t2]) fun vs => some (resV vs, H)
noncomputable def S62 : Ff := ⟨fun call l H => argA1 (fun t0 => S62_0 call t0 H) l⟩
/- (*gantline/parse.parser).decl -/
noncomputable def S63_0 (_ : CallFn) (t2 t3 : AV) (H : AHeap) : R :=
  ldK (.some 4) H t3 fun t63 H =>
  stK 4 H t2 t63 fun _ H =>
  ob (allM (fun o => o) [aLoad (.some 4) H t2]) fun vs => some (resV vs, H)
noncomputable def S63_1 (call : CallFn) (t0 t2 t3 : AV) (H : AHeap) : R :=
  pC call 125 [t0, (.str [125])] H fun _ H =>
  S63_0 call t2 t3 H
noncomputable def S63_3 (call : CallFn) (q0 : AV → AV → AV → AHeap → R) (t0 t2 t3 t24 t28 : AV) (H : AHeap) : R :=
  pPick t24 t28 (.bool false) H fun t29 H =>
  onBool t29 (pFa 3 t3 H fun t30 H =>
  ldK .none H t30 fun t31 H =>
  pC call 127 [t0, (.str [102, 105, 101, 108, 100])] H fun t33 H =>
  andR (andB (ckV (aLoad .none H t30) t31) true) (
  pN (aBsl 4 1 [(.str []), (.str []), (.int .i64 (.ofNat 0)), .nilsl] [(0, 4, t33)]) H fun t34 H =>
  pW (aApp 4 64 H t31 t34) fun t35 H =>
  pFa 3 t3 H fun t36 H =>
  stK 1 H t36 t35 fun _ H =>
  pC call 125 [t0, (.str [59])] H fun _ H =>
  q0 t0 t2 t3 H)) (S63_1 call t0 t2 t3 H)
noncomputable def S63_2 (call : CallFn) (n : Nat) : AV → AV → AV → AHeap → R :=
  Nat.rec (motive := fun _ => AV → AV → AV → AHeap → R) (fun _ _ _ _ => none) (fun _ q0 t0 t2 t3 H => pO (aNil t0) H fun t20 H =>
  pFa 3 t20 H fun t21 H =>
  ldK .none H t21 fun t22 H =>
  pEql t22 (.int .i64 (.ofNat 0)) H fun t23 H =>
  guardA t23 true (pN (aBsl 1 1 [(.str [])] [(0, 1, (.str [125]))]) H fun t26 H =>
  pC call 126 [t0, t26] H fun t27 H =>
  pO (aUn .not t27) H fun t28 H =>
  S63_3 call q0 t0 t2 t3 t23 t28 H) (S63_3 call q0 t0 t2 t3 t23 U H)) n
noncomputable def S63_4 (call : CallFn) (t0 : AV) (H : AHeap) : R :=
  pNew [(.str []), (.str []), (.int .i64 (.ofNat 0)), .nilsl] H fun t2 H =>
  pC call 61 [t0, (.str [])] H fun t6 H =>
  pNew [(.str []), (.str []), (.int .i64 (.ofNat 0)), .nilsl] H fun t3 H =>
  stK 4 H t3 t6 fun _ H =>
  pC call 123 [t0, (.str [115, 116, 114, 117, 99, 116])] H fun t11 H =>
  onBool t11 (pC call 124 [t0] H fun t13 H =>
  pO (aFld 1 .none t13) H fun t14 H =>
  pFa 0 t3 H fun t15 H =>
  stK 1 H t15 (.str [115, 116, 114, 117, 99, 116]) fun _ H =>
  pFa 1 t3 H fun t16 H =>
  stK 1 H t16 t14 fun _ H =>
  pC call 125 [t0, (.str [123])] H fun _ H =>
  S63_2 call 1000000 t0 t2 t3 H) (pC call 123 [t0, (.str [118, 97, 114])] H fun t43 H =>
  onBool t43 (pFa 2 t3 H fun t44 H =>
  ldK .none H t44 fun t45 H =>
  pC call 127 [t0, (.str [103, 108, 111, 98, 97, 108])] H fun t47 H =>
  stK 4 H t3 t47 fun _ H =>
  pFa 2 t3 H fun t49 H =>
  stK 1 H t49 t45 fun _ H =>
  pC call 125 [t0, (.str [59])] H fun _ H =>
  S63_0 call t2 t3 H) (pC call 123 [t0, (.str [102, 117, 110, 99])] H fun t54 H =>
  onBool t54 (pC call 124 [t0] H fun t56 H =>
  pO (aFld 1 .none t56) H fun t57 H =>
  pFa 0 t3 H fun t58 H =>
  stK 1 H t58 (.str [102, 117, 110, 99]) fun _ H =>
  pFa 1 t3 H fun t59 H =>
  stK 1 H t59 t57 fun _ H =>
  pC call 128 [t0] H fun t61 H =>
  pFa 3 t3 H fun t62 H =>
  stK 1 H t62 t61 fun _ H =>
  S63_0 call t2 t3 H) (pC call 129 [t0, (.int .i64 (.ofNat 6))] H fun _ H =>
  S63_0 call t2 t3 H)))
noncomputable def S63 : Ff := ⟨fun call l H => argA1 (fun t0 => S63_4 call t0 H) l⟩
end Go.Proofs.YtbjjgndgofakoaaGreatDoor
