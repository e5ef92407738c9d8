/- Plain functions, printed: part 0. -/
import Derived.Test.YtdccenbljfanpaaGreatDoorAdE
import Derived.Test.YtdccenbljfanpaaGreatDoorProg
import Derived.KernelRfl
namespace Go.Proofs.YtdccenbljfanpaaGreatDoor
open Go.Ab
set_option maxRecDepth 100000
/- gantline/gantlinelaw26.TraceKnown -/
noncomputable def S3_0 (_ : CallFn) (t48 t52 : AV) (H : AHeap) : R :=
  pPick t48 t52 (.bool false) H fun t53 H =>
  some (t53, H)
noncomputable def S3_1 (call : CallFn) (t43 t46 : AV) (H : AHeap) : R :=
  pPick t43 t46 (.bool false) H fun t47 H =>
  guardA t47 true (pO (someAgg (aFill [.nilsl, (.int .i64 (.ofNat 0)), (.int .i64 (.ofNat 0)), (.int .i64 (.ofNat 0)), (.int .i64 (.ofNat 0)), (.int .i64 (.ofNat 0)), .nilsl] [])) H fun t49 H =>
  pC call 9 [t49] H fun t50 H =>
  pO (aLen .sl H t50) H fun t51 H =>
  pEql t51 (.int .i64 (.ofNat 0)) H fun t52 H =>
  S3_0 call t47 t52 H) (S3_0 call t47 U H)
noncomputable def S3_2 (call : CallFn) (t37 t41 : AV) (H : AHeap) : R :=
  pPick t37 t41 (.bool false) H fun t42 H =>
  guardA t42 true (pO (someAgg (aFill [.nilsl, (.int .i64 (.ofNat 0)), (.int .i64 (.ofNat 0)), (.int .i64 (.ofNat 0)), (.int .i64 (.ofNat 0)), (.int .i64 (.ofNat 0)), .nilsl] [])) H fun t44 H =>
  pC call 8 [t44] H fun t45 H =>
  pEql t45 (.str [101, 110, 100, 32, 48, 32, 48, 10]) H fun t46 H =>
  S3_1 call t42 t46 H) (S3_1 call t42 U H)
noncomputable def S3_3 (call : CallFn) (t4 t33 t35 : AV) (H : AHeap) : R :=
  pPick t33 t35 (.bool false) H fun t36 H =>
  guardA t36 true (pFa 0 t4 H fun t38 H =>
  ldK .none H t38 fun t39 H =>
  pO (aLen .sl H t39) H fun t40 H =>
  pEql t40 (.int .i64 (.ofNat 0)) H fun t41 H =>
  S3_2 call t36 t41 H) (S3_2 call t36 U H)
noncomputable def S3_4 (call : CallFn) (t4 t5 t29 t31 : AV) (H : AHeap) : R :=
  pPick t29 t31 (.bool false) H fun t32 H =>
  guardA t32 true (pEql t5 (.int .i64 (.ofNat 0)) H fun t35 H =>
  S3_3 call t4 t32 t35 H) (S3_3 call t4 t32 U H)
noncomputable def S3_5 (call : CallFn) (t4 t5 t6 t25 t27 : AV) (H : AHeap) : R :=
  pPick t25 t27 (.bool false) H fun t28 H =>
  guardA t28 true (pEql t6 (.int .i64 (.ofNat 0)) H fun t31 H =>
  S3_4 call t4 t5 t28 t31 H) (S3_4 call t4 t5 t28 U H)
noncomputable def S3_6 (call : CallFn) (H : AHeap) : R :=
  pC call 5 [] H fun t7 H =>
  pO (aUn .not t7) H fun t8 H =>
  onBool t8 (some ((.bool false), H)) (pO (someAgg (aFill [.nilsl, .nilsl, .nilsl, .nilsl, .nilsl, (.int .i64 (.ofNat 0))] [])) H fun t10 H =>
  pC call 6 [t10, (.int .i64 (.ofNat 8)), .nilsl] H fun t11 H =>
  pExt t11 0 H fun t12 H =>
  pExt t11 1 H fun t13 H =>
  pExt t11 2 H fun t14 H =>
  pNew [.nilsl, (.int .i64 (.ofNat 0)), (.int .i64 (.ofNat 0)), (.int .i64 (.ofNat 0)), (.int .i64 (.ofNat 0)), (.int .i64 (.ofNat 0)), .nilsl] H fun t1 H =>
  stK 7 H t1 t12 fun _ H =>
  pC call 7 [] H fun t16 H =>
  pO (someAgg (aFill [(.int .i64 (.ofNat 0)), (.int .i64 (.ofNat 0)), (.int .i64 (.ofNat 0)), (.int .i64 (.ofNat 0)), (.int .i64 (.ofNat 0)), (.int .i64 (.ofNat 0)), (.int .i64 (.ofNat 0))] [(0, 1, (.int .i64 (.ofNat 2))), (1, 1, (.int .i64 (.ofNat 42)))])) H fun t17 H =>
  pN (aBsl 7 1 [(.int .i64 (.ofNat 0)), (.int .i64 (.ofNat 0)), (.int .i64 (.ofNat 0)), (.int .i64 (.ofNat 0)), (.int .i64 (.ofNat 0)), (.int .i64 (.ofNat 0)), (.int .i64 (.ofNat 0))] [(0, 7, t17)]) H fun t18 H =>
  pC call 6 [t16, (.int .i64 (.ofNat 8)), t18] H fun t19 H =>
  pExt t19 0 H fun t20 H =>
  pExt t19 1 H fun t21 H =>
  pExt t19 2 H fun t22 H =>
  pNew [.nilsl, (.int .i64 (.ofNat 0)), (.int .i64 (.ofNat 0)), (.int .i64 (.ofNat 0)), (.int .i64 (.ofNat 0)), (.int .i64 (.ofNat 0)), .nilsl] H fun t4 H =>
  stK 7 H t4 t20 fun _ H =>
  pEql t14 (.int .i64 (.ofNat 8)) H fun t24 H =>
  guardA t24 true (pEql t13 (.int .i64 (.ofNat 0)) H fun t27 H =>
  S3_5 call t4 t21 t22 t24 t27 H) (S3_5 call t4 t21 t22 t24 U H))
noncomputable def S3 : Ff := ⟨fun call l H => argA0 (S3_6 call H) l⟩
/- gantline/gantlinelaw26.awake -/
noncomputable def S5_0 (_ : CallFn) (t43 t46 : AV) (H : AHeap) : R :=
  pPick t43 t46 (.bool false) H fun t47 H =>
  some (t47, H)
noncomputable def S5_1 (call : CallFn) (t1 t38 t41 : AV) (H : AHeap) : R :=
  pPick t38 t41 (.bool false) H fun t42 H =>
  guardA t42 true (ldK (.some 7) H t1 fun t44 H =>
  pC call 8 [t44] H fun t45 H =>
  pEql t45 (.str [49, 32, 112, 114, 105, 110, 116, 10, 49, 32, 114, 101, 116, 117, 114, 110, 10, 101, 110, 100, 32, 49, 32, 48, 10]) H fun t46 H =>
  S5_0 call t42 t46 H) (S5_0 call t42 U H)
noncomputable def S5_2 (call : CallFn) (t1 t3 t32 t36 : AV) (H : AHeap) : R :=
  pPick t32 t36 (.bool false) H fun t37 H =>
  guardA t37 true (pFa 1 t3 H fun t39 H =>
  ldK .none H t39 fun t40 H =>
  pEql t40 (.int .i64 (.ofNat 1)) H fun t41 H =>
  S5_1 call t1 t37 t41 H) (S5_1 call t1 t37 U H)
noncomputable def S5_3 (call : CallFn) (t1 t3 t28 t30 : AV) (H : AHeap) : R :=
  pPick t28 t30 (.bool false) H fun t31 H =>
  guardA t31 true (pFa 0 t3 H fun t33 H =>
  ldK .none H t33 fun t34 H =>
  pN (aBsl 1 1 [(.int .i64 (.ofNat 0))] [(0, 1, (.int .i64 (.ofNat 5)))]) H fun t35 H =>
  pC call 14 [t34, t35] H fun t36 H =>
  S5_2 call t1 t3 t31 t36 H) (S5_2 call t1 t3 t31 U H)
noncomputable def S5_4 (call : CallFn) (t1 t3 t4 t24 t26 : AV) (H : AHeap) : R :=
  pPick t24 t26 (.bool false) H fun t27 H =>
  guardA t27 true (pEql t4 (.int .i64 (.ofNat 2)) H fun t30 H =>
  S5_3 call t1 t3 t27 t30 H) (S5_3 call t1 t3 t27 U H)
noncomputable def S5_5 (call : CallFn) (H : AHeap) : R :=
  pC call 7 [] H fun t7 H =>
  pN (aBsl 1 3 [(.int .i64 (.ofNat 0))] [(0, 1, (.int .i64 (.ofNat 0))), (1, 1, (.int .i64 (.ofNat 0))), (2, 1, (.int .i64 (.ofNat 0)))]) H fun t8 H =>
  pC call 12 [t7, (.int .i64 (.ofNat 8)), t8] H fun t9 H =>
  pExt t9 0 H fun t10 H =>
  pExt t9 1 H fun _ H =>
  pNew [.nilsl, (.int .i64 (.ofNat 0)), (.int .i64 (.ofNat 0)), (.int .i64 (.ofNat 0)), (.int .i64 (.ofNat 0)), (.int .i64 (.ofNat 0)), .nilsl] H fun t1 H =>
  stK 7 H t1 t10 fun _ H =>
  pFa 6 t1 H fun t14 H =>
  ldK .none H t14 fun t15 H =>
  pNew [.nilsl, (.int .i64 (.ofNat 0)), (.int .i64 (.ofNat 0)), (.int .i64 (.ofNat 0)), (.int .i64 (.ofNat 0)), (.int .i64 (.ofNat 0)), .nilsl] H fun t3 H =>
  pC call 7 [] H fun t13 H =>
  andR (andB (ckV (aLoad .none H t14) t15) true) (
  pC call 6 [t13, (.int .i64 (.ofNat 8)), t15] H fun t16 H =>
  pExt t16 0 H fun t17 H =>
  pExt t16 1 H fun t18 H =>
  pExt t16 2 H fun t19 H =>
  stK 7 H t3 t17 fun _ H =>
  ldK (.some 7) H t1 fun t20 H =>
  pC call 9 [t20] H fun t21 H =>
  pN (aBsl 1 2 [(.int .i64 (.ofNat 0))] [(0, 1, (.int .i64 (.ofNat 1))), (1, 1, (.int .i64 (.ofNat 1)))]) H fun t22 H =>
  pC call 13 [t21, t22] H fun t23 H =>
  guardA t23 true (pEql t19 (.int .i64 (.ofNat 0)) H fun t26 H =>
  S5_4 call t1 t3 t18 t23 t26 H) (S5_4 call t1 t3 t18 t23 U H))
noncomputable def S5 : Ff := ⟨fun call l H => argA0 (S5_5 call H) l⟩
/- gantline/trace.Again -/
noncomputable def S6_0 (call : CallFn) (t6 t9 t11 t12 : AV) (H : AHeap) : R :=
  pO (aNil t11) H fun t42 H =>
  pFa 1 t42 H fun t43 H =>
  ldK .none H t43 fun t44 H =>
  pC call 17 [t9, t44] H fun t45 H =>
  stK 7 H t6 t45 fun _ H =>
  ob (allM (fun o => o) [aLoad (.some 7) H t6, some t12, some (.int .i64 (.ofNat 0))]) fun vs => some (resV vs, H)
noncomputable def S6_2 (call : CallFn) (q0 : AV → AV → AV → AV → AV → AHeap → R) (t2 t6 t9 t11 t12 t30 t36 : AV) (H : AHeap) : R :=
  pPick t30 t36 (.bool false) H fun t37 H =>
  onBool t37 (pAdd t12 (.int .i64 (.ofNat 1)) H fun t39 H =>
  q0 t2 t6 t9 t11 t39 H) (S6_0 call t6 t9 t11 t12 H)
noncomputable def S6_1 (call : CallFn) (n : Nat) : AV → AV → AV → AV → AV → AHeap → R :=
  Nat.rec (motive := fun _ => AV → AV → AV → AV → AV → AHeap → R) (fun _ _ _ _ _ _ => none) (fun _ q0 t2 t6 t9 t11 t12 H => pO (aLen .sl H t2) H fun t28 H =>
  pLss t12 t28 H fun t29 H =>
  guardA t29 true (pIa 7 t2 t12 H fun t34 H =>
  ldK (.some 7) H t34 fun t35 H =>
  pC call 16 [t11, t35] H fun t36 H =>
  S6_2 call q0 t2 t6 t9 t11 t12 t29 t36 H) (S6_2 call q0 t2 t6 t9 t11 t12 t29 U H)) n
noncomputable def S6_3 (call : CallFn) (t0 t1 t2 : AV) (H : AHeap) : R :=
  pBox t0 H fun t3 H =>
  pNew [.nilsl, (.int .i64 (.ofNat 0)), (.int .i64 (.ofNat 0)), (.int .i64 (.ofNat 0)), (.int .i64 (.ofNat 0)), (.int .i64 (.ofNat 0)), .nilsl] H fun t6 H =>
  ldK (.some 6) H t3 fun t14 H =>
  pC call 15 [t14, t1] H fun t16 H =>
  pExt t16 0 H fun t17 H =>
  pExt t16 1 H fun t18 H =>
  pNeq t18 (.int .i64 (.ofNat 0)) H fun t20 H =>
  onBool t20 (pO (someAgg (aFill [.nilsl, (.int .i64 (.ofNat 0)), (.int .i64 (.ofNat 0)), (.int .i64 (.ofNat 0)), (.int .i64 (.ofNat 0)), (.int .i64 (.ofNat 0)), .nilsl] [])) H fun t21 H =>
  stK 7 H t6 t21 fun _ H =>
  ob (allM (fun o => o) [aLoad (.some 7) H t6, some (.int .i64 (.ofNat 0)), some t18]) fun vs => some (resV vs, H)) (pO (someAgg (aFill [.nilp, (.int .i64 (.ofNat 0))] [(0, 1, t17)])) H fun t24 H =>
  pBox t24 H fun t25 H =>
  S6_1 call 1000000 t2 t6 t17 t25 (.int .i64 (.ofNat 0)) H)
noncomputable def S6 : Ff := ⟨fun call l H => argA3 (fun t0 t1 t2 => S6_3 call t0 t1 t2 H) l⟩
/- gantline/gantlinelaw26.prints -/
noncomputable def S7_0 (_ : CallFn) (H : AHeap) : R :=
  pNew [.nilsl, .nilsl, .nilsl, .nilsl, .nilsl, (.int .i64 (.ofNat 0))] H fun t0 H =>
  pN (aBsl 1 1 [(.int .i64 (.ofNat 0))] [(0, 1, (.int .i64 (.ofNat 5)))]) H fun t1 H =>
  pN (aBsl 1 1 [(.bool false)] [(0, 1, (.bool false))]) H fun t2 H =>
  pO (someAgg (aFill [(.int .i64 (.ofNat 0)), (.int .i64 (.ofNat 0)), (.int .i64 (.ofNat 0)), (.int .i64 (.ofNat 0)), (.int .i64 (.ofNat 0))] [(0, 1, (.int .i64 (.ofNat 0)))])) H fun t3 H =>
  pO (someAgg (aFill [(.int .i64 (.ofNat 0)), (.int .i64 (.ofNat 0)), (.int .i64 (.ofNat 0)), (.int .i64 (.ofNat 0)), (.int .i64 (.ofNat 0))] [(0, 1, (.int .i64 (.ofNat 42)))])) H fun t4 H =>
  pO (someAgg (aFill [(.int .i64 (.ofNat 0)), (.int .i64 (.ofNat 0)), (.int .i64 (.ofNat 0)), (.int .i64 (.ofNat 0)), (.int .i64 (.ofNat 0))] [(0, 1, (.int .i64 (.ofNat 22))), (1, 1, (.int .i64 (.negSucc 0)))])) H fun t5 H =>
  pN (aBsl 5 3 [(.int .i64 (.ofNat 0)), (.int .i64 (.ofNat 0)), (.int .i64 (.ofNat 0)), (.int .i64 (.ofNat 0)), (.int .i64 (.ofNat 0))] [(0, 5, t3), (5, 5, t4), (10, 5, t5)]) H fun t6 H =>
  pN (aBsl 1 3 [(.int .u64 (.ofNat 0))] [(0, 1, (.int .u64 (.ofNat 0))), (1, 1, (.int .u64 (.ofNat 0))), (2, 1, (.int .u64 (.ofNat 0)))]) H fun t7 H =>
  pO (someAgg (aFill [(.int .i64 (.ofNat 0)), (.int .i64 (.ofNat 0)), (.int .i64 (.ofNat 0)), (.int .i64 (.ofNat 0)), .nilsl, .nilsl, .nilsl] [(2, 1, (.int .i64 (.ofNat 1))), (4, 1, t2), (5, 1, t6), (6, 1, t7)])) H fun t8 H =>
  pN (aBsl 7 1 [(.int .i64 (.ofNat 0)), (.int .i64 (.ofNat 0)), (.int .i64 (.ofNat 0)), (.int .i64 (.ofNat 0)), .nilsl, .nilsl, .nilsl] [(0, 7, t8)]) H fun t9 H =>
  pO (someAgg (aFill [.nilsl, .nilsl, .nilsl, .nilsl, .nilsl, (.int .i64 (.ofNat 0))] [(2, 1, t1), (4, 1, t9)])) H fun t10 H =>
  stK 6 H t0 t10 fun _ H =>
  ob (allM (fun o => o) [aLoad (.some 6) H t0]) fun vs => some (resV vs, H)
noncomputable def S7 : Ff := ⟨fun call l H => argA0 (S7_0 call H) l⟩
/- gantline/trace.Show -/
noncomputable def S8_0 (call : CallFn) (t1 t3 : AV) (H : AHeap) : R :=
  pFa 1 t1 H fun t24 H =>
  ldK .none H t24 fun t25 H =>
  pFa 2 t1 H fun t29 H =>
  ldK .none H t29 fun t30 H =>
  pC call 19 [t25] H fun t26 H =>
  andR (andB (ckV (aLoad .none H t29) t30) true) (
  pAdd (.str [101, 110, 100, 32]) t26 H fun t27 H =>
  pAdd t27 (.str [32]) H fun t28 H =>
  pC call 19 [t30] H fun t31 H =>
  pAdd t28 t31 H fun t32 H =>
  pAdd t32 (.str [10]) H fun t33 H =>
  pC call 18 [t3, t33] H fun _ H =>
  pC call 21 [t3] H fun t35 H =>
  some (t35, H))
noncomputable def S8_1 (call : CallFn) (n : Nat) : AV → AV → AV → AV → AV → AHeap → R :=
  Nat.rec (motive := fun _ => AV → AV → AV → AV → AV → AHeap → R) (fun _ _ _ _ _ _ => none) (fun _ q0 t1 t3 t7 t8 t9 H => pLss t9 t8 H fun t10 H =>
  onBool t10 (pIa 7 t7 t9 H fun t11 H =>
  ldK (.some 7) H t11 fun t12 H =>
  pNew [(.int .i64 (.ofNat 0)), (.int .i64 (.ofNat 0)), (.int .i64 (.ofNat 0)), (.int .i64 (.ofNat 0)), (.int .i64 (.ofNat 0)), (.int .i64 (.ofNat 0)), (.int .i64 (.ofNat 0))] H fun t5 H =>
  stK 7 H t5 t12 fun _ H =>
  pFa 0 t5 H fun t13 H =>
  ldK .none H t13 fun t14 H =>
  pFa 1 t5 H fun t17 H =>
  ldK .none H t17 fun t18 H =>
  pC call 19 [t14] H fun t15 H =>
  andR (andB (ckV (aLoad .none H t17) t18) true) (
  pAdd t15 (.str [32]) H fun t16 H =>
  pC call 20 [t18] H fun t19 H =>
  pAdd t16 t19 H fun t20 H =>
  pAdd t20 (.str [10]) H fun t21 H =>
  pC call 18 [t3, t21] H fun _ H =>
  pAdd t9 (.int .i64 (.ofNat 1)) H fun t23 H =>
  q0 t1 t3 t7 t8 t23 H)) (S8_0 call t1 t3 H)) n
noncomputable def S8_2 (call : CallFn) (t0 : AV) (H : AHeap) : R :=
  pBox t0 H fun t1 H =>
  pNewB 70 H fun t3 H =>
  pFa 6 t1 H fun t6 H =>
  ldK .none H t6 fun t7 H =>
  pO (aLen .sl H t7) H fun t8 H =>
  S8_1 call 1000000 t1 t3 t7 t8 (.int .i64 (.ofNat 0)) H
noncomputable def S8 : Ff := ⟨fun call l H => argA1 (fun t0 => S8_2 call t0 H) l⟩
/- gantline/trace.Order -/
noncomputable def S9_0 (_ : CallFn) (n : Nat) : AV → AV → AV → AV → AHeap → R :=
  Nat.rec (motive := fun _ => AV → AV → AV → AV → AHeap → R) (fun _ _ _ _ _ => none) (fun _ q0 t3 t7 t8 t9 H => pLss t9 t8 H fun t10 H =>
  onBool t10 (pIa 7 t7 t9 H fun t11 H =>
  ldK (.some 7) H t11 fun t12 H =>
  pNew [(.int .i64 (.ofNat 0)), (.int .i64 (.ofNat 0)), (.int .i64 (.ofNat 0)), (.int .i64 (.ofNat 0)), (.int .i64 (.ofNat 0)), (.int .i64 (.ofNat 0)), (.int .i64 (.ofNat 0))] H fun t5 H =>
  stK 7 H t5 t12 fun _ H =>
  pFa 0 t5 H fun t14 H =>
  ldK .none H t14 fun t15 H =>
  pN (aBsl 1 1 [(.int .i64 (.ofNat 0))] [(0, 1, t15)]) H fun t16 H =>
  pW (aApp 1 8 H t3 t16) fun t17 H =>
  pAdd t9 (.int .i64 (.ofNat 1)) H fun t18 H =>
  q0 t17 t7 t8 t18 H) (some (t3, H))) n
noncomputable def S9_1 (call : CallFn) (t0 : AV) (H : AHeap) : R :=
  pBox t0 H fun t1 H =>
  pFa 6 t1 H fun t6 H =>
  ldK .none H t6 fun t7 H =>
  pO (aLen .sl H t7) H fun t8 H =>
  S9_0 call 1000000 .nilsl t7 t8 (.int .i64 (.ofNat 0)) H
noncomputable def S9 : Ff := ⟨fun call l H => argA1 (fun t0 => S9_1 call t0 H) l⟩
/- gantline/run.Run -/
noncomputable def S12_0 (call : CallFn) (t6 t8 t10 : AV) (H : AHeap) : R :=
  pC call 17 [t8, t10] H fun t38 H =>
  stK 7 H t6 t38 fun _ H =>
  ob (allM (fun o => o) [aLoad (.some 7) H t6, some (.int .i64 (.ofNat 0))]) fun vs => some (resV vs, H)
noncomputable def S12_1 (call : CallFn) (n : Nat) : AV → AV → AV → AV → AV → AV → AHeap → R :=
  Nat.rec (motive := fun _ => AV → AV → AV → AV → AV → AV → AHeap → R) (fun _ _ _ _ _ _ _ => none) (fun _ q0 t6 t8 t10 t23 t24 t25 H => pLss t25 t24 H fun t26 H =>
  onBool t26 (pIa 1 t23 t25 H fun t27 H =>
  ldK .none H t27 fun t28 H =>
  pC call 23 [t8, t28] H fun t31 H =>
  pO (aUn .not t31) H fun t32 H =>
  onBool t32 (S12_0 call t6 t8 t10 H) (pAdd t10 (.int .i64 (.ofNat 1)) H fun t34 H =>
  pAdd t25 (.int .i64 (.ofNat 1)) H fun t35 H =>
  q0 t6 t8 t34 t23 t24 t35 H)) (S12_0 call t6 t8 t10 H)) n
noncomputable def S12_2 (call : CallFn) (t0 t1 t2 : AV) (H : AHeap) : R :=
  pBox t0 H fun t3 H =>
  pNew [.nilsl, (.int .i64 (.ofNat 0)), (.int .i64 (.ofNat 0)), (.int .i64 (.ofNat 0)), (.int .i64 (.ofNat 0)), (.int .i64 (.ofNat 0)), .nilsl] H fun t6 H =>
  ldK (.some 6) H t3 fun t14 H =>
  pC call 15 [t14, t1] H fun t16 H =>
  pExt t16 0 H fun t17 H =>
  pExt t16 1 H fun t18 H =>
  pNeq t18 (.int .i64 (.ofNat 0)) H fun t20 H =>
  onBool t20 (pO (someAgg (aFill [.nilsl, (.int .i64 (.ofNat 0)), (.int .i64 (.ofNat 0)), (.int .i64 (.ofNat 0)), (.int .i64 (.ofNat 0)), (.int .i64 (.ofNat 0)), .nilsl] [])) H fun t21 H =>
  stK 7 H t6 t21 fun _ H =>
  ob (allM (fun o => o) [aLoad (.some 7) H t6, some t18]) fun vs => some (resV vs, H)) (pO (aLen .sl H t2) H fun t24 H =>
  S12_1 call 1000000 t6 t17 (.int .i64 (.ofNat 0)) t2 t24 (.int .i64 (.ofNat 0)) H)
noncomputable def S12 : Ff := ⟨fun call l H => argA3 (fun t0 t1 t2 => S12_2 call t0 t1 t2 H) l⟩
/- gantline/gantlineref17.Ints -/
noncomputable def S13_0 (_ : CallFn) (n : Nat) : AV → AV → AV → AHeap → R :=
  Nat.rec (motive := fun _ => AV → AV → AV → AHeap → R) (fun _ _ _ _ => none) (fun _ q0 t0 t1 t5 H => pO (aLen .sl H t0) H fun t13 H =>
  pLss t5 t13 H fun t14 H =>
  onBool t14 (pIa 1 t0 t5 H fun t19 H =>
  ldK .none H t19 fun t20 H =>
  pIa 1 t1 t5 H fun t23 H =>
  ldK .none H t23 fun t24 H =>
  pNeq t20 t24 H fun t25 H =>
  onBool t25 (some ((.bool false), H)) (pAdd t5 (.int .i64 (.ofNat 1)) H fun t16 H =>
  q0 t0 t1 t16 H)) (some ((.bool true), H))) n
noncomputable def S13_1 (call : CallFn) (t0 t1 : AV) (H : AHeap) : R :=
  pO (aLen .sl H t0) H fun t7 H =>
  pO (aLen .sl H t1) H fun t9 H =>
  pNeq t7 t9 H fun t10 H =>
  onBool t10 (some ((.bool false), H)) (S13_0 call 1000000 t0 t1 (.int .i64 (.ofNat 0)) H)
noncomputable def S13 : Ff := ⟨fun call l H => argA2 (fun t0 t1 => S13_1 call t0 t1 H) l⟩
/- gantline/gantlineref17.Nums -/
noncomputable def S14_0 (_ : CallFn) (n : Nat) : AV → AV → AV → AHeap → R :=
  Nat.rec (motive := fun _ => AV → AV → AV → AHeap → R) (fun _ _ _ _ => none) (fun _ q0 t0 t1 t5 H => pO (aLen .sl H t0) H fun t13 H =>
  pLss t5 t13 H fun t14 H =>
  onBool t14 (pIa 1 t0 t5 H fun t19 H =>
  ldK .none H t19 fun t20 H =>
  pIa 1 t1 t5 H fun t23 H =>
  ldK .none H t23 fun t24 H =>
  pNeq t20 t24 H fun t25 H =>
  onBool t25 (some ((.bool false), H)) (pAdd t5 (.int .i64 (.ofNat 1)) H fun t16 H =>
  q0 t0 t1 t16 H)) (some ((.bool true), H))) n
noncomputable def S14_1 (call : CallFn) (t0 t1 : AV) (H : AHeap) : R :=
  pO (aLen .sl H t0) H fun t7 H =>
  pO (aLen .sl H t1) H fun t9 H =>
  pNeq t7 t9 H fun t10 H =>
  onBool t10 (some ((.bool false), H)) (S14_0 call 1000000 t0 t1 (.int .i64 (.ofNat 0)) H)
noncomputable def S14 : Ff := ⟨fun call l H => argA2 (fun t0 t1 => S14_1 call t0 t1 H) l⟩
/- gantline/vm.New -/
noncomputable def S15_0 (call : CallFn) (t0 t1 : AV) (H : AHeap) : R :=
  pBox t0 H fun t2 H =>
  ldK (.some 6) H t2 fun t9 H =>
  pC call 24 [t9] H fun t10 H =>
  pO (aUn .not t10) H fun t11 H =>
  onBool t11 (some (.tup [.nilp, (.int .i64 (.ofNat 8))], H)) (pFa 0 t2 H fun t14 H =>
  ldK .none H t14 fun t15 H =>
  pC call 25 [t1, t15] H fun t16 H =>
  pExt t16 0 H fun t17 H =>
  pExt t16 1 H fun t18 H =>
  pNeq t18 (.int .i64 (.ofNat 0)) H fun t20 H =>
  onBool t20 (some (.tup [.nilp, t18], H)) (ldK (.some 6) H t2 fun t22 H =>
  pC call 26 [t22] H fun t23 H =>
  stK 6 H t2 t23 fun _ H =>
  ldK (.some 6) H t2 fun t24 H =>
  ldK (.some 6) H t2 fun t26 H =>
  pFa 1 t2 H fun t28 H =>
  ldK .none H t28 fun t29 H =>
  pO (aLen .sl H t29) H fun t30 H =>
  pN (aMksl 1 8 [(.int .i64 (.ofNat 0))] t30 t30) H fun t31 H =>
  pC call 27 [t26] H fun t27 H =>
  andR (andB (ckV (aLoad (.some 6) H t2) t24) (andB (ckV (aLoad .none H t28) t29) (andB (ckV (aLen .sl H t29) t30) true))) (
  pO (someAgg (aFill [.nilsl, .nilsl, .nilsl, .nilsl, .nilsl, (.int .i64 (.ofNat 0)), .nilp, .nilp, .nilsl, .nilsl, .nilsl, (.int .i64 (.ofNat 0)), (.int .i64 (.ofNat 0))] [(0, 6, t24), (6, 1, t17), (7, 1, t27), (8, 1, t31)])) H fun t32 H =>
  pBox t32 H fun t33 H =>
  pO (aNil t33) H fun t35 H =>
  pFa 7 t35 H fun t36 H =>
  ldK .none H t36 fun t37 H =>
  pFa 5 t2 H fun t38 H =>
  ldK .none H t38 fun t39 H =>
  pC call 28 [t37, t39, .nilsl] H fun _ H =>
  pC call 29 [t33] H fun _ H =>
  some (.tup [t33, (.int .i64 (.ofNat 0))], H))))
noncomputable def S15 : Ff := ⟨fun call l H => argA2 (fun t0 t1 => S15_0 call t0 t1 H) l⟩
/- (*gantline/trace.player).act -/
noncomputable def S16_0 (_ : CallFn) (t51 t59 : AV) (H : AHeap) : R :=
  pPick t51 t59 (.bool false) H fun t60 H =>
  some (t60, H)
noncomputable def S16_1 (call : CallFn) (t0 t5 t44 t49 : AV) (H : AHeap) : R :=
  pPick t44 t49 (.bool false) H fun t50 H =>
  guardA t50 true (pO (aNil t0) H fun t53 H =>
  pFa 0 t53 H fun t54 H =>
  ldK .none H t54 fun t55 H =>
  pC call 31 [t55] H fun t56 H =>
  pO (aLen .sl H t56) H fun t57 H =>
  pGtr t57 t5 H fun t59 H =>
  S16_0 call t50 t59 H) (S16_0 call t50 U H)
noncomputable def S16_2 (call : CallFn) (t0 t3 t19 t24 : AV) (H : AHeap) : R :=
  pPick t19 (.bool true) t24 H fun t25 H =>
  onBool t25 (some ((.bool false), H)) (pO (aNil t0) H fun t27 H =>
  pFa 0 t27 H fun t28 H =>
  ldK .none H t28 fun t29 H =>
  pC call 31 [t29] H fun t30 H =>
  pO (aLen .sl H t30) H fun t31 H =>
  pO (aNil t0) H fun t33 H =>
  pFa 0 t33 H fun t34 H =>
  ldK .none H t34 fun t35 H =>
  pFa 0 t3 H fun t36 H =>
  ldK .none H t36 fun t37 H =>
  pFa 4 t3 H fun t39 H =>
  ldK (.some 3) H t39 fun t40 H =>
  pC call 33 [t35, t37] H fun t38 H =>
  andR (andB (ckV (aLoad (.some 3) H t39) t40) true) (
  pC call 32 [t38, t40] H fun t41 H =>
  pGeq t41 (.int .i64 (.ofNat 0)) H fun t43 H =>
  guardA t43 true (pFa 0 t3 H fun t46 H =>
  ldK .none H t46 fun t47 H =>
  pC call 34 [t0, t47, t41] H fun t49 H =>
  S16_1 call t0 t31 t43 t49 H) (S16_1 call t0 t31 t43 U H)))
noncomputable def S16_3 (call : CallFn) (t0 t3 t11 t17 : AV) (H : AHeap) : R :=
  pPick t11 t17 (.bool false) H fun t18 H =>
  guardA t18 false (pFa 0 t3 H fun t21 H =>
  ldK .none H t21 fun t22 H =>
  pC call 30 [t0, t22] H fun t23 H =>
  pO (aUn .not t23) H fun t24 H =>
  S16_2 call t0 t3 t18 t24 H) (S16_2 call t0 t3 t18 U H)
noncomputable def S16_4 (call : CallFn) (t0 t1 : AV) (H : AHeap) : R :=
  pBox t1 H fun t3 H =>
  pFa 4 t3 H fun t7 H =>
  pFa 1 t7 H fun t8 H =>
  ldK .none H t8 fun t9 H =>
  pNeq t9 (.int .i64 (.ofNat 0)) H fun t10 H =>
  guardA t10 true (pFa 4 t3 H fun t13 H =>
  pFa 1 t13 H fun t14 H =>
  ldK .none H t14 fun t15 H =>
  pC call 30 [t0, t15] H fun t16 H =>
  pO (aUn .not t16) H fun t17 H =>
  S16_3 call t0 t3 t10 t17 H) (S16_3 call t0 t3 t10 U H)
noncomputable def S16 : Ff := ⟨fun call l H => argA2 (fun t0 t1 => S16_4 call t0 t1 H) l⟩
/- gantline/run.Told -/
noncomputable def S17_0 (call : CallFn) (t0 t1 : AV) (H : AHeap) : R :=
  pNew [.nilsl, (.int .i64 (.ofNat 0)), (.int .i64 (.ofNat 0)), (.int .i64 (.ofNat 0)), (.int .i64 (.ofNat 0)), (.int .i64 (.ofNat 0)), .nilsl] H fun t4 H =>
  pC call 35 [t0] H fun t9 H =>
  pExt t9 0 H fun t10 H =>
  pExt t9 1 H fun t11 H =>
  pC call 36 [t0] H fun t13 H =>
  pC call 37 [t0] H fun t18 H =>
  pC call 38 [t18] H fun t19 H =>
  pC call 39 [t19] H fun t20 H =>
  pC call 37 [t0] H fun t22 H =>
  pC call 40 [t22] H fun t23 H =>
  pC call 31 [t0] H fun t25 H =>
  pO (someAgg (aFill [.nilsl, (.int .i64 (.ofNat 0)), (.int .i64 (.ofNat 0)), (.int .i64 (.ofNat 0)), (.int .i64 (.ofNat 0)), (.int .i64 (.ofNat 0)), .nilsl] [(0, 1, t13), (1, 1, t10), (2, 1, t11), (3, 1, t1), (4, 1, t20), (5, 1, t23), (6, 1, t25)])) H fun t26 H =>
  stK 7 H t4 t26 fun _ H =>
  ob (allM (fun o => o) [aLoad (.some 7) H t4]) fun vs => some (resV vs, H)
noncomputable def S17 : Ff := ⟨fun call l H => argA2 (fun t0 t1 => S17_0 call t0 t1 H) l⟩
/- strconv.Itoa -/
noncomputable def S19_0 (call : CallFn) (t0 : AV) (H : AHeap) : R :=
  pC call 42 [t0] H fun t4 H =>
  some (t4, H)
noncomputable def S19 : Ff := ⟨fun call l H => argA1 (fun t0 => S19_0 call t0 H) l⟩
/- gantline/code.Name -/
noncomputable def S20_0 (call : CallFn) (t0 : AV) (H : AHeap) : R :=
  pC call 43 [t0] H fun t4 H =>
  pO (aFld 0 .none t4) H fun t5 H =>
  some (t5, H)
noncomputable def S20 : Ff := ⟨fun call l H => argA1 (fun t0 => S20_0 call t0 H) l⟩
/- gantline/run.One -/
noncomputable def S23_0 (call : CallFn) (t0 t1 : AV) (H : AHeap) : R :=
  pC call 44 [t0] H fun t25 H =>
  pO (aLen .sl H t25) H fun t28 H =>
  pAdd t28 (.int .i64 (.ofNat 1)) H fun t29 H =>
  pO (aBin .rem t1 t29) H fun t30 H =>
  pO (aLen .sl H t25) H fun t33 H =>
  pEql t30 t33 H fun t34 H =>
  onBool t34 (pC call 45 [t0] H fun t36 H =>
  some (t36, H)) (pIa 1 t25 t30 H fun t40 H =>
  ldK .none H t40 fun t41 H =>
  pO (aLen .sl H t25) H fun t44 H =>
  pAdd t44 (.int .i64 (.ofNat 1)) H fun t45 H =>
  pO (aBin .quo t1 t45) H fun t46 H =>
  pIa 1 t25 t30 H fun t50 H =>
  ldK .none H t50 fun t51 H =>
  pC call 47 [t0, t51] H fun t52 H =>
  andR (andB (ckV (aLoad .none H t40) t41) (andB (ckV (aLen .sl H t25) t44) true)) (
  pO (aBin .rem t46 t52) H fun t53 H =>
  pC call 46 [t0, t41, t53] H fun t54 H =>
  some (t54, H)))
noncomputable def S23_1 (call : CallFn) (t0 t1 : AV) (H : AHeap) : R :=
  pC call 35 [t0] H fun t11 H =>
  pExt t11 0 H fun t12 H =>
  pExt t11 1 H fun _ H =>
  pNeq t12 (.int .i64 (.ofNat 0)) H fun t15 H =>
  onBool t15 (some ((.bool false), H)) (pEql t1 (.int .i64 (.negSucc 9223372036854775807)) H fun t18 H =>
  onBool t18 (S23_0 call t0 (.int .i64 (.ofNat 0)) H) (pLss t1 (.int .i64 (.ofNat 0)) H fun t21 H =>
  onBool t21 (pO (aUn .neg t1) H fun t23 H =>
  S23_0 call t0 t23 H) (S23_0 call t0 t1 H)))
noncomputable def S23 : Ff := ⟨fun call l H => argA2 (fun t0 t1 => S23_1 call t0 t1 H) l⟩
/- gantline/verify.Module -/
noncomputable def S24_0 (call : CallFn) (t0 : AV) (H : AHeap) : R :=
  pBox t0 H fun t1 H =>
  ldK (.some 6) H t1 fun t6 H =>
  pC call 48 [t6] H fun t7 H =>
  pExt t7 0 H fun t8 H =>
  pExt t7 1 H fun t9 H =>
  pNew [(.int .i64 (.ofNat 0)), (.int .i64 (.ofNat 0)), (.int .i64 (.ofNat 0))] H fun t3 H =>
  stK 3 H t3 t8 fun _ H =>
  some (t9, H)
noncomputable def S24 : Ff := ⟨fun call l H => argA1 (fun t0 => S24_0 call t0 H) l⟩
/- gantline/heap.New -/
noncomputable def S25_0 (call : CallFn) (t1 t8 : AV) (H : AHeap) : R :=
  pC call 52 [t1] H fun t42 H =>
  pO (aNil t8) H fun t43 H =>
  pFa 1 t43 H fun t44 H =>
  stK 1 H t44 t42 fun _ H =>
  some (.tup [t8, (.int .i64 (.ofNat 0))], H)
noncomputable def S25_1 (call : CallFn) (n : Nat) : AV → AV → AV → AV → AV → AV → AHeap → R :=
  Nat.rec (motive := fun _ => AV → AV → AV → AV → AV → AV → AHeap → R) (fun _ _ _ _ _ _ _ => none) (fun _ q0 t1 t6 t8 t24 t25 t26 H => pLss t26 t25 H fun t27 H =>
  onBool t27 (pIa 3 t24 t26 H fun t28 H =>
  ldK (.some 3) H t28 fun t29 H =>
  pNew [(.int .i64 (.ofNat 0)), (.int .i64 (.ofNat 0)), (.int .u64 (.ofNat 0))] H fun t10 H =>
  stK 3 H t10 t29 fun _ H =>
  ldK (.some 3) H t10 fun t33 H =>
  pC call 50 [t6] H fun t32 H =>
  andR (andB (ckV (aLoad (.some 3) H t10) t33) true) (
  pC call 51 [t32, t33] H fun t34 H =>
  pExt t34 0 H fun _ H =>
  pExt t34 1 H fun t36 H =>
  pNeq t36 (.int .i64 (.ofNat 0)) H fun t38 H =>
  onBool t38 (some (.tup [.nilp, (.int .i64 (.ofNat 1))], H)) (pAdd t26 (.int .i64 (.ofNat 1)) H fun t39 H =>
  q0 t1 t6 t8 t24 t25 t39 H))) (S25_0 call t1 t8 H)) n
noncomputable def S25_2 (call : CallFn) (t0 t1 : AV) (H : AHeap) : R :=
  pC call 49 [t0] H fun t15 H =>
  pExt t15 0 H fun t16 H =>
  pExt t15 1 H fun t17 H =>
  pNeq t17 (.int .i64 (.ofNat 0)) H fun t19 H =>
  onBool t19 (some (.tup [.nilp, t17], H)) (pO (someAgg (aFill [.nilp, .nilsl, (.int .i64 (.ofNat 0))] [(0, 1, t16)])) H fun t22 H =>
  pBox t22 H fun t23 H =>
  pO (aLen .sl H t1) H fun t25 H =>
  S25_1 call 1000000 t1 t16 t23 t1 t25 (.int .i64 (.ofNat 0)) H)
noncomputable def S25 : Ff := ⟨fun call l H => argA2 (fun t0 t1 => S25_2 call t0 t1 H) l⟩
/- gantline/vm.clone -/
noncomputable def S26_0 (_ : CallFn) (t1 t2 : AV) (H : AHeap) : R :=
  ldK (.some 6) H t1 fun t60 H =>
  stK 6 H t2 t60 fun _ H =>
  ob (allM (fun o => o) [aLoad (.some 6) H t2]) fun vs => some (resV vs, H)
noncomputable def S26_1 (call : CallFn) (n : Nat) : AV → AV → AV → AV → AHeap → R :=
  Nat.rec (motive := fun _ => AV → AV → AV → AV → AHeap → R) (fun _ _ _ _ _ => none) (fun _ q0 t1 t2 t27 t28 H => pLss t28 t27 H fun t29 H =>
  onBool t29 (pFa 4 t1 H fun t31 H =>
  ldK .none H t31 fun t32 H =>
  pIa 7 t32 t28 H fun t34 H =>
  pO (aNil t34) H fun t39 H =>
  pFa 4 t39 H fun t40 H =>
  ldK .none H t40 fun t41 H =>
  pO (aNil t34) H fun t44 H =>
  pFa 5 t44 H fun t45 H =>
  ldK .none H t45 fun t46 H =>
  pO (aNil t34) H fun t49 H =>
  pFa 6 t49 H fun t50 H =>
  ldK .none H t50 fun t51 H =>
  pC call 53 [t41] H fun t42 H =>
  andR (andB (ckV (aLoad .none H t45) t46) (andB (ckV (aLoad .none H t50) t51) true)) (
  pC call 57 [t46] H fun t47 H =>
  andR (andB (ckV (aLoad .none H t50) t51) true) (
  pC call 58 [t51] H fun t52 H =>
  pO (aNil t34) H fun t53 H =>
  pFa 4 t53 H fun t54 H =>
  stK 1 H t54 t42 fun _ H =>
  pO (aNil t34) H fun t55 H =>
  pFa 5 t55 H fun t56 H =>
  stK 1 H t56 t47 fun _ H =>
  pO (aNil t34) H fun t57 H =>
  pFa 6 t57 H fun t58 H =>
  stK 1 H t58 t52 fun _ H =>
  pAdd t28 (.int .i64 (.ofNat 1)) H fun t59 H =>
  q0 t1 t2 t27 t59 H))) (S26_0 call t1 t2 H)) n
noncomputable def S26_2 (call : CallFn) (t0 : AV) (H : AHeap) : R :=
  pBox t0 H fun t1 H =>
  pNew [.nilsl, .nilsl, .nilsl, .nilsl, .nilsl, (.int .i64 (.ofNat 0))] H fun t2 H =>
  pFa 0 t1 H fun t5 H =>
  ldK .none H t5 fun t6 H =>
  pFa 1 t1 H fun t8 H =>
  ldK .none H t8 fun t9 H =>
  pFa 2 t1 H fun t11 H =>
  ldK .none H t11 fun t12 H =>
  pFa 3 t1 H fun t14 H =>
  ldK .none H t14 fun t15 H =>
  pC call 52 [t6] H fun t7 H =>
  andR (andB (ckV (aLoad .none H t8) t9) (andB (ckV (aLoad .none H t11) t12) (andB (ckV (aLoad .none H t14) t15) true))) (
  pFa 0 t1 H fun t17 H =>
  pC call 53 [t9] H fun t10 H =>
  andR (andB (ckV (aLoad .none H t11) t12) (andB (ckV (aLoad .none H t14) t15) true)) (
  pC call 54 [t12] H fun t13 H =>
  andR (andB (ckV (aLoad .none H t14) t15) true) (
  pC call 55 [t15] H fun t16 H =>
  stK 1 H t17 t7 fun _ H =>
  pFa 1 t1 H fun t18 H =>
  stK 1 H t18 t10 fun _ H =>
  pFa 2 t1 H fun t19 H =>
  stK 1 H t19 t13 fun _ H =>
  pFa 3 t1 H fun t20 H =>
  stK 1 H t20 t16 fun _ H =>
  pFa 4 t1 H fun t21 H =>
  ldK .none H t21 fun t22 H =>
  pC call 56 [t22] H fun t23 H =>
  pFa 4 t1 H fun t24 H =>
  stK 1 H t24 t23 fun _ H =>
  pFa 4 t1 H fun t25 H =>
  ldK .none H t25 fun t26 H =>
  pO (aLen .sl H t26) H fun t27 H =>
  S26_1 call 1000000 t1 t2 t27 (.int .i64 (.ofNat 0)) H)))
noncomputable def S26 : Ff := ⟨fun call l H => argA1 (fun t0 => S26_2 call t0 H) l⟩
/- gantline/sched.New -/
noncomputable def S27_0 (_ : CallFn) (t0 : AV) (H : AHeap) : R :=
  pBox t0 H fun t1 H =>
  ldK (.some 6) H t1 fun t3 H =>
  pMap H fun t4 H =>
  pO (someAgg (aFill [.nilsl, .nilsl, .nilsl, .nilsl, .nilsl, (.int .i64 (.ofNat 0)), .nilmap, (.int .i64 (.ofNat 0))] [(0, 6, t3), (6, 1, t4)])) H fun t5 H =>
  pBox t5 H fun t6 H =>
  some (t6, H)
noncomputable def S27 : Ff := ⟨fun call l H => argA1 (fun t0 => S27_0 call t0 H) l⟩
/- (*gantline/sched.Table).Add -/
noncomputable def S28_0 (call : CallFn) (t0 t1 t2 : AV) (H : AHeap) : R :=
  pO (aNil t0) H fun t11 H =>
  pFa 6 t11 H fun t12 H =>
  ldK .none H t12 fun t13 H =>
  pO (aLen .map H t13) H fun t14 H =>
  pGeq t14 (.int .i64 (.ofNat 64)) H fun t15 H =>
  onBool t15 (some (.tup [(.int .i64 (.ofNat 0)), (.int .i64 (.ofNat 2))], H)) (pO (aNil t0) H fun t18 H =>
  pFa 0 t18 H fun t19 H =>
  ldK (.some 6) H t19 fun t20 H =>
  pC call 59 [t20, t1, t2] H fun t23 H =>
  pExt t23 0 H fun t24 H =>
  pExt t23 1 H fun t25 H =>
  pNeq t25 (.int .i64 (.ofNat 0)) H fun t27 H =>
  onBool t27 (some (.tup [(.int .i64 (.ofNat 0)), t25], H)) (pO (aNil t0) H fun t30 H =>
  pFa 7 t30 H fun t31 H =>
  ldK .none H t31 fun t32 H =>
  pAdd t32 (.int .i64 (.ofNat 1)) H fun t33 H =>
  pO (aNil t0) H fun t34 H =>
  pFa 7 t34 H fun t35 H =>
  stK 1 H t35 t33 fun _ H =>
  pO (aNil t0) H fun t37 H =>
  pFa 6 t37 H fun t38 H =>
  ldK .none H t38 fun t39 H =>
  pO (aNil t0) H fun t41 H =>
  pFa 7 t41 H fun t42 H =>
  ldK .none H t42 fun t43 H =>
  pW (unitW (aMapUp .int H t39 t43 t24)) fun _ H =>
  pO (aNil t0) H fun t46 H =>
  pFa 7 t46 H fun t47 H =>
  ldK .none H t47 fun t48 H =>
  some (.tup [t48, (.int .i64 (.ofNat 0))], H)))
noncomputable def S28 : Ff := ⟨fun call l H => argA3 (fun t0 t1 t2 => S28_0 call t0 t1 t2 H) l⟩
/- (*gantline/vm.Machine).settle -/
noncomputable def S29_0 (_ : CallFn) (t0 t7 t18 : AV) (H : AHeap) : R :=
  pPick t7 t18 (.bool false) H fun t19 H =>
  onBool t19 (pO (aNil t0) H fun t21 H =>
  pFa 11 t21 H fun t22 H =>
  stK 1 H t22 (.int .i64 (.ofNat 3)) fun _ H =>
  some (.tup [], H)) (some (.tup [], H))
noncomputable def S29_1 (call : CallFn) (t0 t7 t17 : AV) (H : AHeap) : R :=
  guardA t7 true (pEql t17 (.int .i64 (.ofNat 0)) H fun t18 H =>
  S29_0 call t0 t7 t18 H) (S29_0 call t0 t7 U H)
noncomputable def S29_2 (call : CallFn) (t0 t7 t16 : AV) (H : AHeap) : R :=
  guardA t7 true (pO (aLen .sl H t16) H fun t17 H =>
  S29_1 call t0 t7 t17 H) (S29_1 call t0 t7 U H)
noncomputable def S29_3 (call : CallFn) (t0 t7 t11 t15 : AV) (H : AHeap) : R :=
  guardA t7 true (pC call 60 [t11, t15] H fun t16 H =>
  S29_2 call t0 t7 t16 H) (S29_2 call t0 t7 U H)
noncomputable def S29_4 (call : CallFn) (t0 t7 t11 t14 : AV) (H : AHeap) : R :=
  guardA t7 true (ldK .none H t14 fun t15 H =>
  S29_3 call t0 t7 t11 t15 H) (S29_3 call t0 t7 t11 U H)
noncomputable def S29_5 (call : CallFn) (t0 t7 t11 t13 : AV) (H : AHeap) : R :=
  guardA t7 true (pFa 6 t13 H fun t14 H =>
  S29_4 call t0 t7 t11 t14 H) (S29_4 call t0 t7 t11 U H)
noncomputable def S29_6 (call : CallFn) (t0 t7 t11 t12 : AV) (H : AHeap) : R :=
  guardA t7 true (pO (aNil t12) H fun t13 H =>
  S29_5 call t0 t7 t11 t13 H) (S29_5 call t0 t7 t11 U H)
noncomputable def S29_7 (call : CallFn) (t0 t7 t11 : AV) (H : AHeap) : R :=
  guardA t7 true (S29_6 call t0 t7 t11 t0 H) (S29_6 call t0 t7 t11 U H)
noncomputable def S29_8 (call : CallFn) (t0 t7 t10 : AV) (H : AHeap) : R :=
  guardA t7 true (ldK .none H t10 fun t11 H =>
  S29_7 call t0 t7 t11 H) (S29_7 call t0 t7 U H)
noncomputable def S29_9 (call : CallFn) (t0 t7 t9 : AV) (H : AHeap) : R :=
  guardA t7 true (pFa 7 t9 H fun t10 H =>
  S29_8 call t0 t7 t10 H) (S29_8 call t0 t7 U H)
noncomputable def S29_10 (call : CallFn) (t0 t7 t8 : AV) (H : AHeap) : R :=
  guardA t7 true (pO (aNil t8) H fun t9 H =>
  S29_9 call t0 t7 t9 H) (S29_9 call t0 t7 U H)
noncomputable def S29_11 (call : CallFn) (t0 : AV) (H : AHeap) : R :=
  pO (aNil t0) H fun t3 H =>
  pFa 11 t3 H fun t4 H =>
  ldK .none H t4 fun t5 H =>
  pEql t5 (.int .i64 (.ofNat 0)) H fun t6 H =>
  guardA t6 true (S29_10 call t0 t6 t0 H) (S29_10 call t0 t6 U H)
noncomputable def S29 : Ff := ⟨fun call l H => argA1 (fun t0 => S29_11 call t0 H) l⟩
/- (*gantline/trace.player).lead -/
noncomputable def S30_1 (call : CallFn) (q0 : AV → AV → AHeap → R) (t0 t1 t6 t17 t19 : AV) (H : AHeap) : R :=
  pPick t17 (.bool true) t19 H fun t20 H =>
  onBool t20 (some (t6, H)) (pC call 34 [t0, t1, (.int .i64 (.ofNat 0))] H fun t24 H =>
  pO (aUn .not t24) H fun t25 H =>
  onBool t25 (some ((.bool false), H)) (q0 t0 t1 H))
noncomputable def S30_0 (call : CallFn) (n : Nat) : AV → AV → AHeap → R :=
  Nat.rec (motive := fun _ => AV → AV → AHeap → R) (fun _ _ _ => none) (fun _ q0 t0 t1 H => pO (aNil t0) H fun t9 H =>
  pFa 0 t9 H fun t10 H =>
  ldK .none H t10 fun t11 H =>
  pC call 61 [t11, t1] H fun t13 H =>
  pExt t13 0 H fun t14 H =>
  pExt t13 1 H fun t15 H =>
  guardA t14 false (pO (aUn .not t15) H fun t19 H =>
  S30_1 call q0 t0 t1 t15 t14 t19 H) (S30_1 call q0 t0 t1 t15 t14 U H)) n
noncomputable def S30 : Ff := ⟨fun call l H => argA2 (fun t0 t1 => S30_0 call 1000000 t0 t1 H) l⟩
/- (*gantline/vm.Machine).Acts -/
noncomputable def S31_0 (call : CallFn) (t0 : AV) (H : AHeap) : R :=
  pO (aNil t0) H fun t4 H =>
  pFa 10 t4 H fun t5 H =>
  ldK .none H t5 fun t6 H =>
  pC call 62 [t6] H fun t7 H =>
  some (t7, H)
noncomputable def S31 : Ff := ⟨fun call l H => argA1 (fun t0 => S31_0 call t0 H) l⟩
/- slices.Index[[]gantline/sched.Way,gantline/sched.Way] -/
noncomputable def S32_0 (_ : CallFn) (n : Nat) : AV → AV → AV → AV → AHeap → R :=
  Nat.rec (motive := fun _ => AV → AV → AV → AV → AHeap → R) (fun _ _ _ _ _ => none) (fun _ q0 t0 t3 t7 t8 H => pLss t8 t7 H fun t9 H =>
  onBool t9 (ldK (.some 3) H t3 fun t11 H =>
  pIa 3 t0 t8 H fun t14 H =>
  ldK (.some 3) H t14 fun t15 H =>
  pO (aEq false (.struct [(0, .none, .int), (1, .none, .int), (2, .none, .int)]) t11 t15) H fun t16 H =>
  onBool t16 (some (t8, H)) (pAdd t8 (.int .i64 (.ofNat 1)) H fun t18 H =>
  q0 t0 t3 t7 t18 H)) (some ((.int .i64 (.negSucc 0)), H))) n
noncomputable def S32_1 (call : CallFn) (t0 t1 : AV) (H : AHeap) : R :=
  pBox t1 H fun t3 H =>
  pO (aLen .sl H t0) H fun t7 H =>
  S32_0 call 1000000 t0 t3 t7 (.int .i64 (.ofNat 0)) H
noncomputable def S32 : Ff := ⟨fun call l H => argA2 (fun t0 t1 => S32_1 call t0 t1 H) l⟩
/- (*gantline/vm.Machine).WaysOf -/
noncomputable def S33_0 (call : CallFn) (t0 t1 : AV) (H : AHeap) : R :=
  pO (aNil t0) H fun t6 H =>
  pFa 11 t6 H fun t7 H =>
  ldK .none H t7 fun t8 H =>
  pNeq t8 (.int .i64 (.ofNat 0)) H fun t9 H =>
  onBool t9 (some (.nilsl, H)) (pO (aNil t0) H fun t11 H =>
  pFa 7 t11 H fun t12 H =>
  ldK .none H t12 fun t13 H =>
  pO (aNil t0) H fun t15 H =>
  pFa 6 t15 H fun t16 H =>
  ldK .none H t16 fun t17 H =>
  pC call 63 [t13, t17, t1] H fun t19 H =>
  some (t19, H))
noncomputable def S33 : Ff := ⟨fun call l H => argA2 (fun t0 t1 => S33_0 call t0 t1 H) l⟩
/- (*gantline/trace.player).do -/
noncomputable def S34_0 (_ : CallFn) (t0 t12 t20 : AV) (H : AHeap) : R :=
  pPick t12 (.bool true) t20 H fun t21 H =>
  onBool t21 (some ((.bool false), H)) (pO (aNil t0) H fun t23 H =>
  pFa 1 t23 H fun t24 H =>
  ldK .none H t24 fun t25 H =>
  pAdd t25 (.int .i64 (.ofNat 1)) H fun t26 H =>
  pO (aNil t0) H fun t27 H =>
  pFa 1 t27 H fun t28 H =>
  stK 1 H t28 t26 fun _ H =>
  some ((.bool true), H))
noncomputable def S34_1 (call : CallFn) (t0 t1 t2 : AV) (H : AHeap) : R :=
  pO (aNil t0) H fun t8 H =>
  pFa 1 t8 H fun t9 H =>
  ldK .none H t9 fun t10 H =>
  pGeq t10 (.int .i64 (.ofNat 100000)) H fun t11 H =>
  guardA t11 false (pO (aNil t0) H fun t14 H =>
  pFa 0 t14 H fun t15 H =>
  ldK .none H t15 fun t16 H =>
  pC call 46 [t16, t1, t2] H fun t19 H =>
  pO (aUn .not t19) H fun t20 H =>
  S34_0 call t0 t11 t20 H) (S34_0 call t0 t11 U H)
noncomputable def S34 : Ff := ⟨fun call l H => argA3 (fun t0 t1 t2 => S34_1 call t0 t1 t2 H) l⟩
/- (*gantline/vm.Machine).End -/
noncomputable def S35_0 (_ : CallFn) (t0 : AV) (H : AHeap) : R :=
  pO (aNil t0) H fun t5 H =>
  pFa 11 t5 H fun t6 H =>
  ldK .none H t6 fun t7 H =>
  pO (aNil t0) H fun t9 H =>
  pFa 12 t9 H fun t10 H =>
  ldK .none H t10 fun t11 H =>
  some (.tup [t7, t11], H)
noncomputable def S35 : Ff := ⟨fun call l H => argA1 (fun t0 => S35_0 call t0 H) l⟩
/- (*gantline/vm.Machine).Out -/
noncomputable def S36_0 (call : CallFn) (t0 : AV) (H : AHeap) : R :=
  pO (aNil t0) H fun t4 H =>
  pFa 9 t4 H fun t5 H =>
  ldK .none H t5 fun t6 H =>
  pC call 54 [t6] H fun t7 H =>
  some (t7, H)
noncomputable def S36 : Ff := ⟨fun call l H => argA1 (fun t0 => S36_0 call t0 H) l⟩
/- (*gantline/vm.Machine).Heap -/
noncomputable def S37_0 (_ : CallFn) (t0 : AV) (H : AHeap) : R :=
  pO (aNil t0) H fun t4 H =>
  pFa 6 t4 H fun t5 H =>
  ldK .none H t5 fun t6 H =>
  some (t6, H)
noncomputable def S37 : Ff := ⟨fun call l H => argA1 (fun t0 => S37_0 call t0 H) l⟩
/- (*gantline/heap.Heap).Cycle -/
noncomputable def S38_0 (_ : CallFn) (t0 : AV) (H : AHeap) : R :=
  pO (aNil t0) H fun t4 H =>
  pFa 0 t4 H fun t5 H =>
  ldK .none H t5 fun t6 H =>
  some (t6, H)
noncomputable def S38 : Ff := ⟨fun call l H => argA1 (fun t0 => S38_0 call t0 H) l⟩
/- (*gantline/cycle.Cycle).Done -/
noncomputable def S39_0 (_ : CallFn) (t0 : AV) (H : AHeap) : R :=
  pO (aNil t0) H fun t4 H =>
  pFa 6 t4 H fun t5 H =>
  ldK .none H t5 fun t6 H =>
  some (t6, H)
noncomputable def S39 : Ff := ⟨fun call l H => argA1 (fun t0 => S39_0 call t0 H) l⟩
/- (*gantline/heap.Heap).Forced -/
noncomputable def S40_0 (_ : CallFn) (t0 : AV) (H : AHeap) : R :=
  pO (aNil t0) H fun t4 H =>
  pFa 2 t4 H fun t5 H =>
  ldK .none H t5 fun t6 H =>
  some (t6, H)
noncomputable def S40 : Ff := ⟨fun call l H => argA1 (fun t0 => S40_0 call t0 H) l⟩
/- internal/strconv.Itoa -/
noncomputable def S42_0 (call : CallFn) (t0 : AV) (H : AHeap) : R :=
  pC call 65 [t0, (.int .i64 (.ofNat 10))] H fun t4 H =>
  some (t4, H)
noncomputable def S42 : Ff := ⟨fun call l H => argA1 (fun t0 => S42_0 call t0 H) l⟩
/- gantline/code.find -/
noncomputable def S43_0 (_ : CallFn) (t0 t2 t3 t7 t11 : AV) (H : AHeap) : R :=
  pPick t7 (.bool true) t11 H fun t12 H =>
  onBool t12 (pO (someAgg (aFill [(.str []), (.int .i64 (.ofNat 0))] [])) H fun t13 H =>
  stK 2 H t2 t13 fun _ H =>
  ob (allM (fun o => o) [aLoad (.some 2) H t2]) fun vs => some (resV vs, H)) (pIa 2 t3 t0 H fun t16 H =>
  ldK (.some 2) H t16 fun t17 H =>
  stK 2 H t2 t17 fun _ H =>
  ob (allM (fun o => o) [aLoad (.some 2) H t2]) fun vs => some (resV vs, H))
noncomputable def S43_1 (call : CallFn) (t0 : AV) (H : AHeap) : R :=
  pNew [(.str []), (.int .i64 (.ofNat 0))] H fun t2 H =>
  pC call 66 [] H fun t4 H =>
  pLss t0 (.int .i64 (.ofNat 0)) H fun t6 H =>
  guardA t6 false (pO (aLen .sl H t4) H fun t10 H =>
  pGeq t0 t10 H fun t11 H =>
  S43_0 call t0 t2 t4 t6 t11 H) (S43_0 call t0 t2 t4 t6 U H)
noncomputable def S43 : Ff := ⟨fun call l H => argA1 (fun t0 => S43_1 call t0 H) l⟩
/- (*gantline/vm.Machine).Enabled -/
noncomputable def S44_0 (call : CallFn) (t0 : AV) (H : AHeap) : R :=
  pO (aNil t0) H fun t4 H =>
  pFa 11 t4 H fun t5 H =>
  ldK .none H t5 fun t6 H =>
  pNeq t6 (.int .i64 (.ofNat 0)) H fun t7 H =>
  onBool t7 (some (.nilsl, H)) (pO (aNil t0) H fun t9 H =>
  pFa 7 t9 H fun t10 H =>
  ldK .none H t10 fun t11 H =>
  pO (aNil t0) H fun t13 H =>
  pFa 6 t13 H fun t14 H =>
  ldK .none H t14 fun t15 H =>
  pC call 60 [t11, t15] H fun t16 H =>
  some (t16, H))
noncomputable def S44 : Ff := ⟨fun call l H => argA1 (fun t0 => S44_0 call t0 H) l⟩
/- (*gantline/vm.Machine).Do -/
noncomputable def S46_0 (call : CallFn) (t0 : AV) (H : AHeap) : R :=
  pC call 29 [t0] H fun _ H =>
  some ((.bool true), H)
noncomputable def S46_1 (call : CallFn) (t0 t1 t2 t7 t9 t11 t82 t87 : AV) (H : AHeap) : R :=
  pPick t82 t87 (.bool false) H fun t88 H =>
  onBool t88 (pO (aNil t0) H fun t91 H =>
  pFa 10 t91 H fun t92 H =>
  ldK .none H t92 fun t93 H =>
  pFa 0 t9 H fun t95 H =>
  ldK .none H t95 fun t96 H =>
  pFa 0 t11 H fun t97 H =>
  ldK .none H t97 fun t98 H =>
  pFa 1 t11 H fun t99 H =>
  ldK .none H t99 fun t100 H =>
  pIa 3 t7 t2 H fun t103 H =>
  ldK (.some 3) H t103 fun t104 H =>
  pO (someAgg (aFill [(.int .i64 (.ofNat 0)), (.int .i64 (.ofNat 0)), (.int .i64 (.ofNat 0)), (.int .i64 (.ofNat 0)), (.int .i64 (.ofNat 0)), (.int .i64 (.ofNat 0)), (.int .i64 (.ofNat 0))] [(0, 1, t1), (1, 1, t96), (2, 1, t98), (3, 1, t100), (4, 3, t104)])) H fun t105 H =>
  pN (aBsl 7 1 [(.int .i64 (.ofNat 0)), (.int .i64 (.ofNat 0)), (.int .i64 (.ofNat 0)), (.int .i64 (.ofNat 0)), (.int .i64 (.ofNat 0)), (.int .i64 (.ofNat 0)), (.int .i64 (.ofNat 0))] [(0, 7, t105)]) H fun t106 H =>
  pW (aApp 7 56 H t93 t106) fun t107 H =>
  pO (aNil t0) H fun t108 H =>
  pFa 10 t108 H fun t109 H =>
  stK 1 H t109 t107 fun _ H =>
  S46_0 call t0 H) (S46_0 call t0 H)
noncomputable def S46_2 (call : CallFn) (t0 t1 t2 t7 t9 t11 t75 t80 : AV) (H : AHeap) : R :=
  pPick t75 t80 (.bool false) H fun t81 H =>
  guardA t81 true (pO (aNil t0) H fun t84 H =>
  pFa 11 t84 H fun t85 H =>
  ldK .none H t85 fun t86 H =>
  pNeq t86 (.int .i64 (.ofNat 4)) H fun t87 H =>
  S46_1 call t0 t1 t2 t7 t9 t11 t81 t87 H) (S46_1 call t0 t1 t2 t7 t9 t11 t81 U H)
noncomputable def S46_3 (call : CallFn) (t0 t1 t2 t7 t20 t24 : AV) (H : AHeap) : R :=
  pPick t20 (.bool true) t24 H fun t25 H =>
  onBool t25 (some ((.bool false), H)) (pO (aNil t0) H fun t27 H =>
  pFa 7 t27 H fun t28 H =>
  ldK .none H t28 fun t29 H =>
  pC call 69 [t29, t1] H fun t31 H =>
  pO (aNil t0) H fun t35 H =>
  pFa 0 t35 H fun t36 H =>
  ldK (.some 6) H t36 fun t37 H =>
  pC call 70 [t31, t37] H fun t38 H =>
  pExt t38 0 H fun t39 H =>
  pExt t38 1 H fun _ H =>
  pNew [(.int .i64 (.ofNat 0)), (.int .i64 (.ofNat 0)), (.int .i64 (.ofNat 0)), (.int .i64 (.ofNat 0)), (.int .i64 (.ofNat 0))] H fun t9 H =>
  stK 5 H t9 t39 fun _ H =>
  pC call 71 [t31] H fun t43 H =>
  pExt t43 0 H fun t44 H =>
  pExt t43 1 H fun _ H =>
  pNew [(.int .i64 (.ofNat 0)), (.int .i64 (.ofNat 0)), .nilsl] H fun t11 H =>
  stK 3 H t11 t44 fun _ H =>
  pFa 0 t9 H fun t46 H =>
  ldK .none H t46 fun t47 H =>
  pC call 73 [t31] H fun t49 H =>
  andR (andB (ckV (aLoad .none H t46) t47) true) (
  pC call 72 [t47, t49] H fun t50 H =>
  ldK (.some 5) H t9 fun t54 H =>
  pO (aNil t0) H fun t56 H =>
  pFa 0 t56 H fun t57 H =>
  pFa 4 t57 H fun t58 H =>
  ldK .none H t58 fun t59 H =>
  pFa 0 t11 H fun t60 H =>
  ldK .none H t60 fun t61 H =>
  pIa 7 t59 t61 H fun t62 H =>
  ldK (.some 7) H t62 fun t63 H =>
  pFa 1 t11 H fun t64 H =>
  ldK .none H t64 fun t65 H =>
  pIa 3 t7 t2 H fun t68 H =>
  ldK (.some 3) H t68 fun t69 H =>
  pO (someAgg (aFill [.nilp, (.int .i64 (.ofNat 0)), .nilp, (.int .i64 (.ofNat 0)), (.int .i64 (.ofNat 0)), (.int .i64 (.ofNat 0)), (.int .i64 (.ofNat 0)), (.int .i64 (.ofNat 0)), (.int .i64 (.ofNat 0)), (.int .i64 (.ofNat 0)), (.int .i64 (.ofNat 0)), (.int .i64 (.ofNat 0)), .nilsl, .nilsl, .nilsl, (.int .i64 (.ofNat 0)), (.int .i64 (.ofNat 0)), (.int .i64 (.ofNat 0)), (.int .i64 (.ofNat 0))] [(0, 1, t0), (1, 1, t1), (2, 1, t31), (3, 5, t54), (8, 7, t63), (15, 1, t65), (16, 3, t69)])) H fun t70 H =>
  pBox t70 H fun t71 H =>
  pC call 74 [t71] H fun _ H =>
  guardA t50 true (pO (aNil t0) H fun t77 H =>
  pFa 11 t77 H fun t78 H =>
  ldK .none H t78 fun t79 H =>
  pNeq t79 (.int .i64 (.ofNat 2)) H fun t80 H =>
  S46_2 call t0 t1 t2 t7 t9 t11 t50 t80 H) (S46_2 call t0 t1 t2 t7 t9 t11 t50 U H)))
noncomputable def S46_4 (call : CallFn) (t0 t1 t2 : AV) (H : AHeap) : R :=
  pC call 33 [t0, t1] H fun t17 H =>
  pLss t2 (.int .i64 (.ofNat 0)) H fun t19 H =>
  guardA t19 false (pO (aLen .sl H t17) H fun t23 H =>
  pGeq t2 t23 H fun t24 H =>
  S46_3 call t0 t1 t2 t17 t19 t24 H) (S46_3 call t0 t1 t2 t17 t19 U H)
noncomputable def S46 : Ff := ⟨fun call l H => argA3 (fun t0 t1 t2 => S46_4 call t0 t1 t2 H) l⟩
/- (*gantline/vm.Machine).Ways -/
noncomputable def S47_0 (call : CallFn) (t0 t1 : AV) (H : AHeap) : R :=
  pC call 33 [t0, t1] H fun t7 H =>
  pO (aLen .sl H t7) H fun t8 H =>
  some (t8, H)
noncomputable def S47 : Ff := ⟨fun call l H => argA2 (fun t0 t1 => S47_0 call t0 t1 H) l⟩
/- gantline/verify.Check -/
noncomputable def S48_0 (call : CallFn) (t0 : AV) (H : AHeap) : R :=
  pBox t0 H fun t1 H =>
  pNew [(.int .i64 (.ofNat 0)), (.int .i64 (.ofNat 0)), (.int .i64 (.ofNat 0))] H fun t2 H =>
  ldK (.some 6) H t1 fun t4 H =>
  pC call 75 [t4, .nilsl] H fun t5 H =>
  pExt t5 0 H fun t6 H =>
  pExt t5 1 H fun t7 H =>
  stK 3 H t2 t6 fun _ H =>
  ob (allM (fun o => o) [aLoad (.some 3) H t2, some t7]) fun vs => some (resV vs, H)
noncomputable def S48 : Ff := ⟨fun call l H => argA1 (fun t0 => S48_0 call t0 H) l⟩
/- gantline/cycle.New -/
noncomputable def S49_0 (call : CallFn) (t0 : AV) (H : AHeap) : R :=
  pC call 76 [t0] H fun t9 H =>
  pExt t9 0 H fun t10 H =>
  pExt t9 1 H fun t11 H =>
  pNeq t11 (.int .i64 (.ofNat 0)) H fun t13 H =>
  onBool t13 (some (.tup [.nilp, t11], H)) (pC call 77 [] H fun t15 H =>
  pC call 78 [t10] H fun t19 H =>
  pC call 79 [t10, t15] H fun t22 H =>
  pMap H fun t23 H =>
  pO (someAgg (aFill [.nilp, .nilp, .nilp, .nilp, (.int .i64 (.ofNat 0)), .nilmap, (.int .i64 (.ofNat 0)), (.int .i64 (.ofNat 0))] [(0, 1, t10), (1, 1, t15), (2, 1, t19), (3, 1, t22), (5, 1, t23), (7, 1, (.int .i64 (.ofNat 64)))])) H fun t24 H =>
  pBox t24 H fun t25 H =>
  some (.tup [t25, (.int .i64 (.ofNat 0))], H))
noncomputable def S49 : Ff := ⟨fun call l H => argA1 (fun t0 => S49_0 call t0 H) l⟩
/- slices.Clone[[]gantline/head.Shape,gantline/head.Shape] -/
noncomputable def S52_0 (_ : CallFn) (t0 : AV) (H : AHeap) : R :=
  pO (aEq false .sl t0 .nilsl) H fun t4 H =>
  onBool t4 (some (.nilsl, H)) (pN (aBsl 3 0 [(.int .i64 (.ofNat 0)), (.int .i64 (.ofNat 0)), (.int .u64 (.ofNat 0))] []) H fun t5 H =>
  pW (aApp 3 24 H t5 t0) fun t7 H =>
  some (t7, H))
noncomputable def S52 : Ff := ⟨fun call l H => argA1 (fun t0 => S52_0 call t0 H) l⟩
/- slices.Clone[[]bool,bool] -/
noncomputable def S53_0 (_ : CallFn) (t0 : AV) (H : AHeap) : R :=
  pO (aEq false .sl t0 .nilsl) H fun t4 H =>
  onBool t4 (some (.nilsl, H)) (pN (aBsl 1 0 [(.bool false)] []) H fun t5 H =>
  pW (aApp 1 1 H t5 t0) fun t7 H =>
  some (t7, H))
noncomputable def S53 : Ff := ⟨fun call l H => argA1 (fun t0 => S53_0 call t0 H) l⟩
/- slices.Clone[[]int64,int64] -/
noncomputable def S54_0 (_ : CallFn) (t0 : AV) (H : AHeap) : R :=
  pO (aEq false .sl t0 .nilsl) H fun t4 H =>
  onBool t4 (some (.nilsl, H)) (pN (aBsl 1 0 [(.int .i64 (.ofNat 0))] []) H fun t5 H =>
  pW (aApp 1 8 H t5 t0) fun t7 H =>
  some (t7, H))
noncomputable def S54 : Ff := ⟨fun call l H => argA1 (fun t0 => S54_0 call t0 H) l⟩
/- slices.Clone[[]gantline/code.Case,gantline/code.Case] -/
noncomputable def S55_0 (_ : CallFn) (t0 : AV) (H : AHeap) : R :=
  pO (aEq false .sl t0 .nilsl) H fun t4 H =>
  onBool t4 (some (.nilsl, H)) (pN (aBsl 4 0 [(.int .i64 (.ofNat 0)), (.int .i64 (.ofNat 0)), (.int .i64 (.ofNat 0)), (.int .i64 (.ofNat 0))] []) H fun t5 H =>
  pW (aApp 4 32 H t5 t0) fun t7 H =>
  some (t7, H))
noncomputable def S55 : Ff := ⟨fun call l H => argA1 (fun t0 => S55_0 call t0 H) l⟩
/- slices.Clone[[]gantline/code.Func,gantline/code.Func] -/
noncomputable def S56_0 (_ : CallFn) (t0 : AV) (H : AHeap) : R :=
  pO (aEq false .sl t0 .nilsl) H fun t4 H =>
  onBool t4 (some (.nilsl, H)) (pN (aBsl 7 0 [(.int .i64 (.ofNat 0)), (.int .i64 (.ofNat 0)), (.int .i64 (.ofNat 0)), (.int .i64 (.ofNat 0)), .nilsl, .nilsl, .nilsl] []) H fun t5 H =>
  pW (aApp 7 104 H t5 t0) fun t7 H =>
  some (t7, H))
noncomputable def S56 : Ff := ⟨fun call l H => argA1 (fun t0 => S56_0 call t0 H) l⟩
/- slices.Clone[[]gantline/code.Instr,gantline/code.Instr] -/
noncomputable def S57_0 (_ : CallFn) (t0 : AV) (H : AHeap) : R :=
  pO (aEq false .sl t0 .nilsl) H fun t4 H =>
  onBool t4 (some (.nilsl, H)) (pN (aBsl 5 0 [(.int .i64 (.ofNat 0)), (.int .i64 (.ofNat 0)), (.int .i64 (.ofNat 0)), (.int .i64 (.ofNat 0)), (.int .i64 (.ofNat 0))] []) H fun t5 H =>
  pW (aApp 5 40 H t5 t0) fun t7 H =>
  some (t7, H))
noncomputable def S57 : Ff := ⟨fun call l H => argA1 (fun t0 => S57_0 call t0 H) l⟩
/- slices.Clone[[]uint64,uint64] -/
noncomputable def S58_0 (_ : CallFn) (t0 : AV) (H : AHeap) : R :=
  pO (aEq false .sl t0 .nilsl) H fun t4 H =>
  onBool t4 (some (.nilsl, H)) (pN (aBsl 1 0 [(.int .u64 (.ofNat 0))] []) H fun t5 H =>
  pW (aApp 1 8 H t5 t0) fun t7 H =>
  some (t7, H))
noncomputable def S58 : Ff := ⟨fun call l H => argA1 (fun t0 => S58_0 call t0 H) l⟩
/- gantline/frame.New -/
noncomputable def S59_0 (call : CallFn) (t0 t1 t2 : AV) (H : AHeap) : R :=
  pBox t0 H fun t3 H =>
  ldK (.some 6) H t3 fun t11 H =>
  pC call 81 [t11, t1, t2] H fun t14 H =>
  pExt t14 0 H fun t15 H =>
  pExt t14 1 H fun t16 H =>
  pNew [(.int .i64 (.ofNat 0)), (.int .i64 (.ofNat 0)), .nilsl] H fun t8 H =>
  stK 3 H t8 t15 fun _ H =>
  pNeq t16 (.int .i64 (.ofNat 0)) H fun t18 H =>
  onBool t18 (some (.tup [.nilp, t16], H)) (ldK (.some 3) H t8 fun t20 H =>
  pN (aBsl 3 1 [(.int .i64 (.ofNat 0)), (.int .i64 (.ofNat 0)), .nilsl] [(0, 3, t20)]) H fun t21 H =>
  pO (someAgg (aFill [.nilsl] [(0, 1, t21)])) H fun t22 H =>
  pBox t22 H fun t23 H =>
  some (.tup [t23, (.int .i64 (.ofNat 0))], H))
noncomputable def S59 : Ff := ⟨fun call l H => argA3 (fun t0 t1 t2 => S59_0 call t0 t1 t2 H) l⟩
/- (*gantline/sched.Table).Enabled -/
noncomputable def S60_0 (call : CallFn) (t0 t1 : AV) (H : AHeap) : R :=
  pBox t0 H fun t2 H =>
  pBox t1 H fun t3 H =>
  ldK .none H t2 fun t5 H =>
  pC call 83 [t5] H fun t6 H =>
  pC call 82 [t6, (.fn 84 [] [t2, t3])] H fun t8 H =>
  some (t8, H)
noncomputable def S60 : Ff := ⟨fun call l H => argA2 (fun t0 t1 => S60_0 call t0 t1 H) l⟩
/- slices.Clone[[]gantline/vm.Act,gantline/vm.Act] -/
noncomputable def S62_0 (_ : CallFn) (t0 : AV) (H : AHeap) : R :=
  pO (aEq false .sl t0 .nilsl) H fun t4 H =>
  onBool t4 (some (.nilsl, H)) (pN (aBsl 7 0 [(.int .i64 (.ofNat 0)), (.int .i64 (.ofNat 0)), (.int .i64 (.ofNat 0)), (.int .i64 (.ofNat 0)), (.int .i64 (.ofNat 0)), (.int .i64 (.ofNat 0)), (.int .i64 (.ofNat 0))] []) H fun t5 H =>
  pW (aApp 7 56 H t5 t0) fun t7 H =>
  some (t7, H))
noncomputable def S62 : Ff := ⟨fun call l H => argA1 (fun t0 => S62_0 call t0 H) l⟩
/- (*gantline/sched.Table).Ways -/
noncomputable def S63_0 (_ : CallFn) (t11 t12 t74 t76 : AV) (H : AHeap) : R :=
  pPick t74 t76 (.bool false) H fun t77 H =>
  onBool t77 (pO (someAgg (aFill [(.int .i64 (.ofNat 0)), (.int .i64 (.ofNat 0)), (.int .i64 (.ofNat 0))] [(0, 1, t11), (1, 1, (.int .i64 (.ofNat 0))), (2, 1, (.int .i64 (.negSucc 0)))])) H fun t79 H =>
  pN (aBsl 3 1 [(.int .i64 (.ofNat 0)), (.int .i64 (.ofNat 0)), (.int .i64 (.ofNat 0))] [(0, 3, t79)]) H fun t80 H =>
  some (t80, H)) (some (t12, H))
noncomputable def S63_1 (call : CallFn) (t11 t12 : AV) (H : AHeap) : R :=
  pO (aLen .sl H t12) H fun t72 H =>
  pEql t72 (.int .i64 (.ofNat 0)) H fun t73 H =>
  guardA t73 true (pNeq t11 (.int .i64 (.negSucc 0)) H fun t76 H =>
  S63_0 call t11 t12 t73 t76 H) (S63_0 call t11 t12 t73 U H)
noncomputable def S63_2 (call : CallFn) (n : Nat) : AV → AV → AV → AV → AV → AV → AV → AV → AHeap → R :=
  Nat.rec (motive := fun _ => AV → AV → AV → AV → AV → AV → AV → AV → AHeap → R) (fun _ _ _ _ _ _ _ _ _ => none) (fun _ q0 t0 t1 t2 t11 t12 t57 t58 t59 H => pLss t59 t58 H fun t60 H =>
  onBool t60 (pIa 4 t57 t59 H fun t61 H =>
  ldK (.some 4) H t61 fun t62 H =>
  pNew [(.int .i64 (.ofNat 0)), (.bool false), (.int .i64 (.ofNat 0)), (.bool false)] H fun t14 H =>
  stK 4 H t14 t62 fun _ H =>
  ldK (.some 4) H t14 fun t67 H =>
  pC call 86 [t0, t1, t2, t67] H fun t68 H =>
  pW (aApp 3 24 H t12 t68) fun t69 H =>
  pAdd t59 (.int .i64 (.ofNat 1)) H fun t70 H =>
  q0 t0 t1 t2 t11 t69 t57 t58 t70 H) (S63_1 call t11 t12 H)) n
noncomputable def S63_3 (call : CallFn) (t0 t1 t2 t7 t8 t42 t45 : AV) (H : AHeap) : R :=
  pPick t42 t45 (.bool false) H fun t46 H =>
  onBool t46 (pO (someAgg (aFill [(.int .i64 (.ofNat 0)), (.int .i64 (.ofNat 0)), (.int .i64 (.ofNat 0))] [(0, 1, (.int .i64 (.negSucc 0))), (1, 1, (.int .i64 (.ofNat 0))), (2, 1, (.int .i64 (.negSucc 0)))])) H fun t47 H =>
  pN (aBsl 3 1 [(.int .i64 (.ofNat 0)), (.int .i64 (.ofNat 0)), (.int .i64 (.ofNat 0))] [(0, 3, t47)]) H fun t48 H =>
  some (t48, H)) (ldK (.some 5) H t8 fun t53 H =>
  pC call 85 [t0, t1, t7, t53] H fun t54 H =>
  pExt t54 0 H fun t55 H =>
  pExt t54 1 H fun t56 H =>
  pO (aLen .sl H t55) H fun t58 H =>
  S63_2 call 1000000 t0 t1 t2 t56 .nilsl t55 t58 (.int .i64 (.ofNat 0)) H)
noncomputable def S63_4 (call : CallFn) (t0 t1 t2 t7 t8 t37 t40 : AV) (H : AHeap) : R :=
  pPick t37 t40 (.bool false) H fun t41 H =>
  guardA t41 true (pFa 0 t8 H fun t43 H =>
  ldK .none H t43 fun t44 H =>
  pNeq t44 (.int .i64 (.ofNat 41)) H fun t45 H =>
  S63_3 call t0 t1 t2 t7 t8 t41 t45 H) (S63_3 call t0 t1 t2 t7 t8 t41 U H)
noncomputable def S63_5 (call : CallFn) (t0 t1 t2 : AV) (H : AHeap) : R :=
  pO (aNil t0) H fun t16 H =>
  pFa 6 t16 H fun t17 H =>
  ldK .none H t17 fun t18 H =>
  pO (aLook .int .nilp false H t18 t2) H fun t20 H =>
  pO (aEq false .ptr t20 .nilp) H fun t22 H =>
  onBool t22 (some (.nilsl, H)) (pO (aNil t0) H fun t26 H =>
  pFa 0 t26 H fun t27 H =>
  ldK (.some 6) H t27 fun t28 H =>
  pC call 70 [t20, t28] H fun t29 H =>
  pExt t29 0 H fun t30 H =>
  pExt t29 1 H fun t31 H =>
  pNew [(.int .i64 (.ofNat 0)), (.int .i64 (.ofNat 0)), (.int .i64 (.ofNat 0)), (.int .i64 (.ofNat 0)), (.int .i64 (.ofNat 0))] H fun t8 H =>
  stK 5 H t8 t30 fun _ H =>
  pO (aUn .not t31) H fun t33 H =>
  onBool t33 (some (.nilsl, H)) (pFa 0 t8 H fun t34 H =>
  ldK .none H t34 fun t35 H =>
  pNeq t35 (.int .i64 (.ofNat 38)) H fun t36 H =>
  guardA t36 true (pFa 0 t8 H fun t38 H =>
  ldK .none H t38 fun t39 H =>
  pNeq t39 (.int .i64 (.ofNat 39)) H fun t40 H =>
  S63_4 call t0 t1 t2 t20 t8 t36 t40 H) (S63_4 call t0 t1 t2 t20 t8 t36 U H)))
noncomputable def S63 : Ff := ⟨fun call l H => argA3 (fun t0 t1 t2 => S63_5 call t0 t1 t2 H) l⟩
/- internal/strconv.FormatInt -/
noncomputable def S65_0 (call : CallFn) (t0 t5 t6 : AV) (H : AHeap) : R :=
  pC call 88 [t6] H fun t27 H =>
  pAdd (.int .i64 (.ofNat 1)) t27 H fun t29 H =>
  pO (aSliceA 1 24 t5 (.some (.int .i64 (.ofNat 1))) (.some t29) .none) H fun t30 H =>
  pC call 89 [t30, t6] H fun _ H =>
  pLss t0 (.int .i64 (.ofNat 0)) H fun t34 H =>
  onBool t34 (pIaA 1 24 t5 (.int .i64 (.ofNat 0)) H fun t35 H =>
  stK 1 H t35 (.int .u8 (.ofNat 45)) fun _ H =>
  pAdd (.int .i64 (.ofNat 1)) t27 H fun t37 H =>
  pO (aSliceA 1 24 t5 .none (.some t37) .none) H fun t38 H =>
  pO (strOnly t38) H fun t39 H =>
  some (t39, H)) (pAdd (.int .i64 (.ofNat 1)) t27 H fun t41 H =>
  pO (aSliceA 1 24 t5 (.some (.int .i64 (.ofNat 1))) (.some t41) .none) H fun t42 H =>
  pO (strOnly t42) H fun t43 H =>
  some (t43, H))
noncomputable def S65_1 (call : CallFn) (t0 t14 t16 : AV) (H : AHeap) : R :=
  pPick t14 t16 (.bool false) H fun t17 H =>
  onBool t17 (pC call 87 [t0] H fun t19 H =>
  some (t19, H)) (pNew [(.int .u8 (.ofNat 0)), (.int .u8 (.ofNat 0)), (.int .u8 (.ofNat 0)), (.int .u8 (.ofNat 0)), (.int .u8 (.ofNat 0)), (.int .u8 (.ofNat 0)), (.int .u8 (.ofNat 0)), (.int .u8 (.ofNat 0)), (.int .u8 (.ofNat 0)), (.int .u8 (.ofNat 0)), (.int .u8 (.ofNat 0)), (.int .u8 (.ofNat 0)), (.int .u8 (.ofNat 0)), (.int .u8 (.ofNat 0)), (.int .u8 (.ofNat 0)), (.int .u8 (.ofNat 0)), (.int .u8 (.ofNat 0)), (.int .u8 (.ofNat 0)), (.int .u8 (.ofNat 0)), (.int .u8 (.ofNat 0)), (.int .u8 (.ofNat 0)), (.int .u8 (.ofNat 0)), (.int .u8 (.ofNat 0)), (.int .u8 (.ofNat 0))] H fun t5 H =>
  pConv .u64 t0 H fun t21 H =>
  pLss t0 (.int .i64 (.ofNat 0)) H fun t23 H =>
  onBool t23 (pO (aUn .neg t21) H fun t25 H =>
  S65_0 call t0 t5 t25 H) (S65_0 call t0 t5 t21 H))
noncomputable def S65_2 (call : CallFn) (t0 t1 : AV) (H : AHeap) : R :=
  pEql t1 (.int .i64 (.ofNat 10)) H fun t11 H =>
  onBool t11 (pLeq (.int .i64 (.ofNat 0)) t0 H fun t13 H =>
  guardA t13 true (pLss t0 (.int .i64 (.ofNat 100)) H fun t16 H =>
  S65_1 call t0 t13 t16 H) (S65_1 call t0 t13 U H)) (pConv .u64 t0 H fun t46 H =>
  pLss t0 (.int .i64 (.ofNat 0)) H fun t49 H =>
  pC call 90 [.nilsl, t46, t1, t49, (.bool false)] H fun t50 H =>
  pExt t50 0 H fun _ H =>
  pExt t50 1 H fun t52 H =>
  some (t52, H))
noncomputable def S65 : Ff := ⟨fun call l H => argA2 (fun t0 t1 => S65_2 call t0 t1 H) l⟩
/- (*gantline/sched.Table).Stack -/
noncomputable def S69_0 (_ : CallFn) (t0 t1 : AV) (H : AHeap) : R :=
  pO (aNil t0) H fun t6 H =>
  pFa 6 t6 H fun t7 H =>
  ldK .none H t7 fun t8 H =>
  pO (aLook .int .nilp false H t8 t1) H fun t10 H =>
  some (t10, H)
noncomputable def S69 : Ff := ⟨fun call l H => argA2 (fun t0 t1 => S69_0 call t0 t1 H) l⟩
/- (*gantline/frame.Stack).At -/
noncomputable def S70_0 (_ : CallFn) (t3 t4 t6 t35 t50 : AV) (H : AHeap) : R :=
  pPick t35 (.bool true) t50 H fun t51 H =>
  onBool t51 (pO (someAgg (aFill [(.int .i64 (.ofNat 0)), (.int .i64 (.ofNat 0)), (.int .i64 (.ofNat 0)), (.int .i64 (.ofNat 0)), (.int .i64 (.ofNat 0))] [])) H fun t52 H =>
  stK 5 H t4 t52 fun _ H =>
  ob (allM (fun o => o) [aLoad (.some 5) H t4, some (.bool false)]) fun vs => some (resV vs, H)) (pFa 4 t3 H fun t53 H =>
  ldK .none H t53 fun t54 H =>
  pO (aNil t6) H fun t56 H =>
  pFa 0 t56 H fun t57 H =>
  ldK .none H t57 fun t58 H =>
  pIa 7 t54 t58 H fun t59 H =>
  pFa 5 t59 H fun t60 H =>
  ldK .none H t60 fun t61 H =>
  pO (aNil t6) H fun t63 H =>
  pFa 1 t63 H fun t64 H =>
  ldK .none H t64 fun t65 H =>
  pIa 5 t61 t65 H fun t66 H =>
  ldK (.some 5) H t66 fun t67 H =>
  stK 5 H t4 t67 fun _ H =>
  ob (allM (fun o => o) [aLoad (.some 5) H t4, some (.bool true)]) fun vs => some (resV vs, H))
noncomputable def S70_1 (call : CallFn) (t3 t4 t6 t35 t39 t49 : AV) (H : AHeap) : R :=
  guardA t35 false (pGeq t39 t49 H fun t50 H =>
  S70_0 call t3 t4 t6 t35 t50 H) (S70_0 call t3 t4 t6 t35 U H)
noncomputable def S70_2 (call : CallFn) (t3 t4 t6 t35 t39 t48 : AV) (H : AHeap) : R :=
  guardA t35 false (pO (aLen .sl H t48) H fun t49 H =>
  S70_1 call t3 t4 t6 t35 t39 t49 H) (S70_1 call t3 t4 t6 t35 t39 U H)
noncomputable def S70_3 (call : CallFn) (t3 t4 t6 t35 t39 t47 : AV) (H : AHeap) : R :=
  guardA t35 false (ldK .none H t47 fun t48 H =>
  S70_2 call t3 t4 t6 t35 t39 t48 H) (S70_2 call t3 t4 t6 t35 t39 U H)
noncomputable def S70_4 (call : CallFn) (t3 t4 t6 t35 t39 t46 : AV) (H : AHeap) : R :=
  guardA t35 false (pFa 5 t46 H fun t47 H =>
  S70_3 call t3 t4 t6 t35 t39 t47 H) (S70_3 call t3 t4 t6 t35 t39 U H)
noncomputable def S70_5 (call : CallFn) (t3 t4 t6 t35 t39 t41 t45 : AV) (H : AHeap) : R :=
  guardA t35 false (pIa 7 t41 t45 H fun t46 H =>
  S70_4 call t3 t4 t6 t35 t39 t46 H) (S70_4 call t3 t4 t6 t35 t39 U H)
noncomputable def S70_6 (call : CallFn) (t3 t4 t6 t35 t39 t41 t44 : AV) (H : AHeap) : R :=
  guardA t35 false (ldK .none H t44 fun t45 H =>
  S70_5 call t3 t4 t6 t35 t39 t41 t45 H) (S70_5 call t3 t4 t6 t35 t39 t41 U H)
noncomputable def S70_7 (call : CallFn) (t3 t4 t6 t35 t39 t41 t43 : AV) (H : AHeap) : R :=
  guardA t35 false (pFa 0 t43 H fun t44 H =>
  S70_6 call t3 t4 t6 t35 t39 t41 t44 H) (S70_6 call t3 t4 t6 t35 t39 t41 U H)
noncomputable def S70_8 (call : CallFn) (t3 t4 t6 t35 t39 t41 t42 : AV) (H : AHeap) : R :=
  guardA t35 false (pO (aNil t42) H fun t43 H =>
  S70_7 call t3 t4 t6 t35 t39 t41 t43 H) (S70_7 call t3 t4 t6 t35 t39 t41 U H)
noncomputable def S70_9 (call : CallFn) (t3 t4 t6 t35 t39 t41 : AV) (H : AHeap) : R :=
  guardA t35 false (S70_8 call t3 t4 t6 t35 t39 t41 t6 H) (S70_8 call t3 t4 t6 t35 t39 t41 U H)
noncomputable def S70_10 (call : CallFn) (t3 t4 t6 t35 t39 t40 : AV) (H : AHeap) : R :=
  guardA t35 false (ldK .none H t40 fun t41 H =>
  S70_9 call t3 t4 t6 t35 t39 t41 H) (S70_9 call t3 t4 t6 t35 t39 U H)
noncomputable def S70_11 (call : CallFn) (t3 t4 t6 t35 t39 : AV) (H : AHeap) : R :=
  guardA t35 false (pFa 4 t3 H fun t40 H =>
  S70_10 call t3 t4 t6 t35 t39 t40 H) (S70_10 call t3 t4 t6 t35 t39 U H)
noncomputable def S70_12 (call : CallFn) (t3 t4 t6 t35 t38 : AV) (H : AHeap) : R :=
  guardA t35 false (ldK .none H t38 fun t39 H =>
  S70_11 call t3 t4 t6 t35 t39 H) (S70_11 call t3 t4 t6 t35 U H)
noncomputable def S70_13 (call : CallFn) (t3 t4 t6 t35 t37 : AV) (H : AHeap) : R :=
  guardA t35 false (pFa 1 t37 H fun t38 H =>
  S70_12 call t3 t4 t6 t35 t38 H) (S70_12 call t3 t4 t6 t35 U H)
noncomputable def S70_14 (call : CallFn) (t3 t4 t6 t35 t36 : AV) (H : AHeap) : R :=
  guardA t35 false (pO (aNil t36) H fun t37 H =>
  S70_13 call t3 t4 t6 t35 t37 H) (S70_13 call t3 t4 t6 t35 U H)
noncomputable def S70_15 (call : CallFn) (t3 t4 t6 t28 t33 : AV) (H : AHeap) : R :=
  pPick t28 (.bool true) t33 H fun t34 H =>
  guardA t34 false (S70_14 call t3 t4 t6 t34 t6 H) (S70_14 call t3 t4 t6 t34 U H)
noncomputable def S70_16 (call : CallFn) (t3 t4 t6 t28 t32 : AV) (H : AHeap) : R :=
  guardA t28 false (pLss t32 (.int .i64 (.ofNat 0)) H fun t33 H =>
  S70_15 call t3 t4 t6 t28 t33 H) (S70_15 call t3 t4 t6 t28 U H)
noncomputable def S70_17 (call : CallFn) (t3 t4 t6 t28 t31 : AV) (H : AHeap) : R :=
  guardA t28 false (ldK .none H t31 fun t32 H =>
  S70_16 call t3 t4 t6 t28 t32 H) (S70_16 call t3 t4 t6 t28 U H)
noncomputable def S70_18 (call : CallFn) (t3 t4 t6 t28 t30 : AV) (H : AHeap) : R :=
  guardA t28 false (pFa 1 t30 H fun t31 H =>
  S70_17 call t3 t4 t6 t28 t31 H) (S70_17 call t3 t4 t6 t28 U H)
noncomputable def S70_19 (call : CallFn) (t3 t4 t6 t28 t29 : AV) (H : AHeap) : R :=
  guardA t28 false (pO (aNil t29) H fun t30 H =>
  S70_18 call t3 t4 t6 t28 t30 H) (S70_18 call t3 t4 t6 t28 U H)
noncomputable def S70_20 (call : CallFn) (t3 t4 t6 t18 t26 : AV) (H : AHeap) : R :=
  pPick t18 (.bool true) t26 H fun t27 H =>
  guardA t27 false (S70_19 call t3 t4 t6 t27 t6 H) (S70_19 call t3 t4 t6 t27 U H)
noncomputable def S70_21 (call : CallFn) (t3 t4 t6 t18 t22 t25 : AV) (H : AHeap) : R :=
  guardA t18 false (pGeq t22 t25 H fun t26 H =>
  S70_20 call t3 t4 t6 t18 t26 H) (S70_20 call t3 t4 t6 t18 U H)
noncomputable def S70_22 (call : CallFn) (t3 t4 t6 t18 t22 t24 : AV) (H : AHeap) : R :=
  guardA t18 false (pO (aLen .sl H t24) H fun t25 H =>
  S70_21 call t3 t4 t6 t18 t22 t25 H) (S70_21 call t3 t4 t6 t18 t22 U H)
noncomputable def S70_23 (call : CallFn) (t3 t4 t6 t18 t22 t23 : AV) (H : AHeap) : R :=
  guardA t18 false (ldK .none H t23 fun t24 H =>
  S70_22 call t3 t4 t6 t18 t22 t24 H) (S70_22 call t3 t4 t6 t18 t22 U H)
noncomputable def S70_24 (call : CallFn) (t3 t4 t6 t18 t22 : AV) (H : AHeap) : R :=
  guardA t18 false (pFa 4 t3 H fun t23 H =>
  S70_23 call t3 t4 t6 t18 t22 t23 H) (S70_23 call t3 t4 t6 t18 t22 U H)
noncomputable def S70_25 (call : CallFn) (t3 t4 t6 t18 t21 : AV) (H : AHeap) : R :=
  guardA t18 false (ldK .none H t21 fun t22 H =>
  S70_24 call t3 t4 t6 t18 t22 H) (S70_24 call t3 t4 t6 t18 U H)
noncomputable def S70_26 (call : CallFn) (t3 t4 t6 t18 t20 : AV) (H : AHeap) : R :=
  guardA t18 false (pFa 0 t20 H fun t21 H =>
  S70_25 call t3 t4 t6 t18 t21 H) (S70_25 call t3 t4 t6 t18 U H)
noncomputable def S70_27 (call : CallFn) (t3 t4 t6 t18 t19 : AV) (H : AHeap) : R :=
  guardA t18 false (pO (aNil t19) H fun t20 H =>
  S70_26 call t3 t4 t6 t18 t20 H) (S70_26 call t3 t4 t6 t18 U H)
noncomputable def S70_28 (call : CallFn) (t3 t4 t6 t11 t16 : AV) (H : AHeap) : R :=
  pPick t11 (.bool true) t16 H fun t17 H =>
  guardA t17 false (S70_27 call t3 t4 t6 t17 t6 H) (S70_27 call t3 t4 t6 t17 U H)
noncomputable def S70_29 (call : CallFn) (t3 t4 t6 t11 t15 : AV) (H : AHeap) : R :=
  guardA t11 false (pLss t15 (.int .i64 (.ofNat 0)) H fun t16 H =>
  S70_28 call t3 t4 t6 t11 t16 H) (S70_28 call t3 t4 t6 t11 U H)
noncomputable def S70_30 (call : CallFn) (t3 t4 t6 t11 t14 : AV) (H : AHeap) : R :=
  guardA t11 false (ldK .none H t14 fun t15 H =>
  S70_29 call t3 t4 t6 t11 t15 H) (S70_29 call t3 t4 t6 t11 U H)
noncomputable def S70_31 (call : CallFn) (t3 t4 t6 t11 t13 : AV) (H : AHeap) : R :=
  guardA t11 false (pFa 0 t13 H fun t14 H =>
  S70_30 call t3 t4 t6 t11 t14 H) (S70_30 call t3 t4 t6 t11 U H)
noncomputable def S70_32 (call : CallFn) (t3 t4 t6 t11 t12 : AV) (H : AHeap) : R :=
  guardA t11 false (pO (aNil t12) H fun t13 H =>
  S70_31 call t3 t4 t6 t11 t13 H) (S70_31 call t3 t4 t6 t11 U H)
noncomputable def S70_33 (call : CallFn) (t0 t1 : AV) (H : AHeap) : R :=
  pBox t1 H fun t3 H =>
  pNew [(.int .i64 (.ofNat 0)), (.int .i64 (.ofNat 0)), (.int .i64 (.ofNat 0)), (.int .i64 (.ofNat 0)), (.int .i64 (.ofNat 0))] H fun t4 H =>
  pC call 99 [t0] H fun t8 H =>
  pO (aEq false .ptr t8 .nilp) H fun t10 H =>
  guardA t10 false (S70_32 call t3 t4 t8 t10 t8 H) (S70_32 call t3 t4 t8 t10 U H)
noncomputable def S70 : Ff := ⟨fun call l H => argA2 (fun t0 t1 => S70_33 call t0 t1 H) l⟩
/- (*gantline/frame.Stack).Top -/
noncomputable def S71_0 (call : CallFn) (t0 : AV) (H : AHeap) : R :=
  pNew [(.int .i64 (.ofNat 0)), (.int .i64 (.ofNat 0)), .nilsl] H fun t2 H =>
  pC call 99 [t0] H fun t6 H =>
  pO (aEq false .ptr t6 .nilp) H fun t8 H =>
  onBool t8 (pO (someAgg (aFill [(.int .i64 (.ofNat 0)), (.int .i64 (.ofNat 0)), .nilsl] [])) H fun t9 H =>
  stK 3 H t2 t9 fun _ H =>
  ob (allM (fun o => o) [aLoad (.some 3) H t2, some (.bool false)]) fun vs => some (resV vs, H)) (pO (aNil t6) H fun t11 H =>
  ldK (.some 3) H t11 fun t12 H =>
  pC call 100 [t12] H fun t13 H =>
  stK 3 H t2 t13 fun _ H =>
  ob (allM (fun o => o) [aLoad (.some 3) H t2, some (.bool true)]) fun vs => some (resV vs, H))
noncomputable def S71 : Ff := ⟨fun call l H => argA1 (fun t0 => S71_0 call t0 H) l⟩
/- gantline/vm.isAct -/
noncomputable def S72_0 (_ : CallFn) (t15 t21 : AV) (H : AHeap) : R :=
  pPick t15 (.bool true) t21 H fun t22 H =>
  some (t22, H)
noncomputable def S72_1 (call : CallFn) (t15 t18 t20 : AV) (H : AHeap) : R :=
  guardA t15 false (pPick t18 t20 (.bool false) H fun t21 H =>
  S72_0 call t15 t21 H) (S72_0 call t15 U H)
noncomputable def S72_2 (call : CallFn) (t1 t15 t18 : AV) (H : AHeap) : R :=
  guardA t18 true (pEql t1 (.int .i64 (.ofNat 1)) H fun t20 H =>
  S72_1 call t15 t18 t20 H) (S72_1 call t15 t18 U H)
noncomputable def S72_3 (call : CallFn) (t0 t1 t11 t13 : AV) (H : AHeap) : R :=
  pPick t11 t13 (.bool false) H fun t14 H =>
  guardA t14 false (pEql t0 (.int .i64 (.ofNat 22)) H fun t17 H =>
  S72_2 call t1 t14 t17 H) (S72_2 call t1 t14 U H)
noncomputable def S72_4 (call : CallFn) (t0 t1 t7 t9 : AV) (H : AHeap) : R :=
  pPick t7 t9 (.bool false) H fun t10 H =>
  guardA t10 true (pNeq t0 (.int .i64 (.ofNat 36)) H fun t13 H =>
  S72_3 call t0 t1 t10 t13 H) (S72_3 call t0 t1 t10 U H)
noncomputable def S72_5 (call : CallFn) (t0 t1 : AV) (H : AHeap) : R :=
  pGeq t0 (.int .i64 (.ofNat 23)) H fun t6 H =>
  guardA t6 true (pLeq t0 (.int .i64 (.ofNat 42)) H fun t9 H =>
  S72_4 call t0 t1 t6 t9 H) (S72_4 call t0 t1 t6 U H)
noncomputable def S72 : Ff := ⟨fun call l H => argA2 (fun t0 t1 => S72_5 call t0 t1 H) l⟩
/- (*gantline/frame.Stack).Depth -/
noncomputable def S73_0 (_ : CallFn) (t0 : AV) (H : AHeap) : R :=
  pO (aNil t0) H fun t4 H =>
  pFa 0 t4 H fun t5 H =>
  ldK .none H t5 fun t6 H =>
  pO (aLen .sl H t6) H fun t7 H =>
  some (t7, H)
noncomputable def S73 : Ff := ⟨fun call l H => argA1 (fun t0 => S73_0 call t0 H) l⟩
/- (*gantline/vm.doing).do -/
noncomputable def S74_0 (call : CallFn) (t0 : AV) (H : AHeap) : R :=
  pC call 106 [t0] H fun _ H =>
  some (.tup [], H)
noncomputable def S74_1 (call : CallFn) (t0 t2 t35 t37 : AV) (H : AHeap) : R :=
  pPick t35 (.bool true) t37 H fun t38 H =>
  onBool t38 (pC call 103 [t0] H fun _ H =>
  some (.tup [], H)) (pLeq t2 (.int .i64 (.ofNat 35)) H fun t43 H =>
  onBool t43 (pC call 104 [t0] H fun _ H =>
  some (.tup [], H)) (pEql t2 (.int .i64 (.ofNat 42)) H fun t48 H =>
  onBool t48 (pO (aNil t0) H fun t50 H =>
  pFa 0 t50 H fun t51 H =>
  ldK .none H t51 fun t52 H =>
  pO (aNil t52) H fun t53 H =>
  pFa 9 t53 H fun t54 H =>
  ldK .none H t54 fun t55 H =>
  pO (aLen .sl H t55) H fun t56 H =>
  pLss t56 (.int .i64 (.ofNat 65536)) H fun t57 H =>
  onBool t57 (pO (aNil t0) H fun t59 H =>
  pFa 0 t59 H fun t60 H =>
  ldK .none H t60 fun t61 H =>
  pO (aNil t0) H fun t63 H =>
  pFa 0 t63 H fun t64 H =>
  ldK .none H t64 fun t65 H =>
  pO (aNil t65) H fun t66 H =>
  pFa 9 t66 H fun t67 H =>
  ldK .none H t67 fun t68 H =>
  pO (aNil t0) H fun t70 H =>
  pFa 2 t70 H fun t71 H =>
  ldK .none H t71 fun t72 H =>
  pO (aNil t0) H fun t74 H =>
  pFa 3 t74 H fun t75 H =>
  pFa 1 t75 H fun t76 H =>
  ldK .none H t76 fun t77 H =>
  pC call 105 [t72, t77] H fun t78 H =>
  andR (andB (ckV (aLoad .none H t60) t61) (andB (ckV (aLoad .none H t64) t65) (andB (ckV (aLoad .none H t67) t68) true))) (
  pN (aBsl 1 1 [(.int .i64 (.ofNat 0))] [(0, 1, t78)]) H fun t79 H =>
  pW (aApp 1 8 H t68 t79) fun t80 H =>
  andR (andB (ckV (aLoad .none H t60) t61) true) (
  pO (aNil t61) H fun t81 H =>
  pFa 9 t81 H fun t82 H =>
  stK 1 H t82 t80 fun _ H =>
  S74_0 call t0 H))) (S74_0 call t0 H)) (pEql t2 (.int .i64 (.ofNat 44)) H fun t87 H =>
  onBool t87 (pO (aNil t0) H fun t89 H =>
  pFa 0 t89 H fun t90 H =>
  ldK .none H t90 fun t91 H =>
  pO (aNil t0) H fun t93 H =>
  pFa 3 t93 H fun t94 H =>
  pFa 1 t94 H fun t95 H =>
  ldK .none H t95 fun t96 H =>
  pC call 107 [t91, t96] H fun _ H =>
  some (.tup [], H)) (pC call 108 [t0] H fun _ H =>
  some (.tup [], H)))))
noncomputable def S74_2 (call : CallFn) (t0 t2 t31 t33 : AV) (H : AHeap) : R :=
  pPick t31 (.bool true) t33 H fun t34 H =>
  guardA t34 false (pEql t2 (.int .i64 (.ofNat 37)) H fun t37 H =>
  S74_1 call t0 t2 t34 t37 H) (S74_1 call t0 t2 t34 U H)
noncomputable def S74_3 (call : CallFn) (t0 t2 t27 t29 : AV) (H : AHeap) : R :=
  pPick t27 (.bool true) t29 H fun t30 H =>
  guardA t30 false (pEql t2 (.int .i64 (.ofNat 36)) H fun t33 H =>
  S74_2 call t0 t2 t30 t33 H) (S74_2 call t0 t2 t30 U H)
noncomputable def S74_4 (call : CallFn) (t0 t2 t13 t15 : AV) (H : AHeap) : R :=
  pPick t13 (.bool true) t15 H fun t16 H =>
  onBool t16 (pC call 101 [t0] H fun _ H =>
  some (.tup [], H)) (pLeq t2 (.int .i64 (.ofNat 24)) H fun t21 H =>
  onBool t21 (pC call 102 [t0] H fun _ H =>
  some (.tup [], H)) (pEql t2 (.int .i64 (.ofNat 25)) H fun t26 H =>
  guardA t26 false (pEql t2 (.int .i64 (.ofNat 26)) H fun t29 H =>
  S74_3 call t0 t2 t26 t29 H) (S74_3 call t0 t2 t26 U H)))
noncomputable def S74_5 (call : CallFn) (t0 : AV) (H : AHeap) : R :=
  pO (aNil t0) H fun t4 H =>
  pFa 3 t4 H fun t5 H =>
  pFa 0 t5 H fun t6 H =>
  ldK .none H t6 fun t7 H =>
  pLeq t7 (.int .i64 (.ofNat 19)) H fun t12 H =>
  guardA t12 false (pEql t7 (.int .i64 (.ofNat 43)) H fun t15 H =>
  S74_4 call t0 t7 t12 t15 H) (S74_4 call t0 t7 t12 U H)
noncomputable def S74 : Ff := ⟨fun call l H => argA1 (fun t0 => S74_5 call t0 H) l⟩
/- gantline/verify.Without -/
noncomputable def S75_0 (_ : CallFn) (t4 : AV) (H : AHeap) : R :=
  pO (someAgg (aFill [(.int .i64 (.ofNat 0)), (.int .i64 (.ofNat 0)), (.int .i64 (.ofNat 0))] [])) H fun t92 H =>
  stK 3 H t4 t92 fun _ H =>
  ob (allM (fun o => o) [aLoad (.some 3) H t4, some (.bool true)]) fun vs => some (resV vs, H)
noncomputable def S75_2 (_ : CallFn) (q0 : AV → AV → AV → AV → AV → AV → AV → AHeap → R) (t1 t2 t4 t9 t41 t42 t43 : AV) (H : AHeap) : R :=
  pAdd t43 (.int .i64 (.ofNat 1)) H fun t91 H =>
  q0 t1 t2 t4 t9 t41 t42 t91 H
noncomputable def S75_4 (_ : CallFn) (q1 : AV → AV → AV → AV → AV → AV → AV → AV → AV → AV → AV → AV → AHeap → R) (t1 t2 t4 t9 t10 t12 t41 t42 t43 t57 t58 t59 : AV) (H : AHeap) : R :=
  pAdd t59 (.int .i64 (.ofNat 1)) H fun t90 H =>
  q1 t1 t2 t4 t9 t10 t12 t41 t42 t43 t57 t58 t90 H
noncomputable def S75_6 (_ : CallFn) (q2 : AV → AV → AV → AV → AV → AV → AV → AV → AV → AV → AV → AV → AV → AV → AHeap → R) (t1 t2 t4 t9 t10 t12 t13 t15 t41 t42 t43 t57 t58 t59 t80 t84 : AV) (H : AHeap) : R :=
  pPick t80 t84 (.bool false) H fun t85 H =>
  onBool t85 (pO (someAgg (aFill [(.int .i64 (.ofNat 0)), (.int .i64 (.ofNat 0)), (.int .i64 (.ofNat 0))] [(0, 1, t10), (1, 1, t13), (2, 1, t15)])) H fun t89 H =>
  stK 3 H t4 t89 fun _ H =>
  ob (allM (fun o => o) [aLoad (.some 3) H t4, some (.bool false)]) fun vs => some (resV vs, H)) (pAdd t15 (.int .i64 (.ofNat 1)) H fun t75 H =>
  q2 t1 t2 t4 t9 t10 t12 t13 t75 t41 t42 t43 t57 t58 t59 H)
noncomputable def S75_5 (call : CallFn) (q1 : AV → AV → AV → AV → AV → AV → AV → AV → AV → AV → AV → AV → AHeap → R) (n : Nat) : AV → AV → AV → AV → AV → AV → AV → AV → AV → AV → AV → AV → AV → AV → AHeap → R :=
  Nat.rec (motive := fun _ => AV → AV → AV → AV → AV → AV → AV → AV → AV → AV → AV → AV → AV → AV → AHeap → R) (fun _ _ _ _ _ _ _ _ _ _ _ _ _ _ _ => none) (fun _ q2 t1 t2 t4 t9 t10 t12 t13 t15 t41 t42 t43 t57 t58 t59 H => pLeq t15 (.int .i64 (.ofNat 10)) H fun t73 H =>
  onBool t73 (pC call 112 [t1, t15] H fun t78 H =>
  pO (aUn .not t78) H fun t79 H =>
  guardA t79 true (pC call 113 [t12, t15] H fun t83 H =>
  pO (aUn .not t83) H fun t84 H =>
  S75_6 call q2 t1 t2 t4 t9 t10 t12 t13 t15 t41 t42 t43 t57 t58 t59 t79 t84 H) (S75_6 call q2 t1 t2 t4 t9 t10 t12 t13 t15 t41 t42 t43 t57 t58 t59 t79 U H)) (S75_4 call q1 t1 t2 t4 t9 t10 t12 t41 t42 t43 t57 t58 t59 H)) n
noncomputable def S75_3 (call : CallFn) (q0 : AV → AV → AV → AV → AV → AV → AV → AHeap → R) (n : Nat) : AV → AV → AV → AV → AV → AV → AV → AV → AV → AV → AV → AV → AHeap → R :=
  Nat.rec (motive := fun _ => AV → AV → AV → AV → AV → AV → AV → AV → AV → AV → AV → AV → AHeap → R) (fun _ _ _ _ _ _ _ _ _ _ _ _ _ => none) (fun _ q1 t1 t2 t4 t9 t10 t12 t41 t42 t43 t57 t58 t59 H => pLss t59 t58 H fun t60 H =>
  onBool t60 (pIa 5 t57 t59 H fun t62 H =>
  ldK (.some 5) H t62 fun t63 H =>
  pNew [(.int .i64 (.ofNat 0)), (.int .i64 (.ofNat 0)), (.int .i64 (.ofNat 0)), (.int .i64 (.ofNat 0)), (.int .i64 (.ofNat 0))] H fun t14 H =>
  stK 5 H t14 t63 fun _ H =>
  ldK (.some 5) H t14 fun t67 H =>
  pO (aNil t12) H fun t68 H =>
  pFa 16 t68 H fun t69 H =>
  stK 1 H t69 t59 fun _ H =>
  andR (andB (ckV (aLoad (.some 5) H t14) t67) true) (
  pO (aNil t12) H fun t70 H =>
  pFa 17 t70 H fun t71 H =>
  stK 5 H t71 t67 fun _ H =>
  S75_5 call q1 1000000 t1 t2 t4 t9 t10 t12 t59 (.int .i64 (.ofNat 4)) t41 t42 t43 t57 t58 t59 H)) (S75_2 call q0 t1 t2 t4 t9 t41 t42 t43 H)) n
noncomputable def S75_1 (call : CallFn) (n : Nat) : AV → AV → AV → AV → AV → AV → AV → AHeap → R :=
  Nat.rec (motive := fun _ => AV → AV → AV → AV → AV → AV → AV → AHeap → R) (fun _ _ _ _ _ _ _ _ => none) (fun _ q0 t1 t2 t4 t9 t41 t42 t43 H => pLss t43 t42 H fun t44 H =>
  onBool t44 (pIa 7 t41 t43 H fun t46 H =>
  ldK (.some 7) H t46 fun t47 H =>
  pNew [(.int .i64 (.ofNat 0)), (.int .i64 (.ofNat 0)), (.int .i64 (.ofNat 0)), (.int .i64 (.ofNat 0)), .nilsl, .nilsl, .nilsl] H fun t11 H =>
  stK 7 H t11 t47 fun _ H =>
  ldK (.some 6) H t2 fun t48 H =>
  ldK (.some 7) H t11 fun t49 H =>
  ldK (.some 6) H t2 fun t50 H =>
  ldK (.some 7) H t11 fun t51 H =>
  pC call 111 [t50, t51] H fun t52 H =>
  andR (andB (ckV (aLoad (.some 6) H t2) t48) (andB (ckV (aLoad (.some 7) H t11) t49) true)) (
  pO (someAgg (aFill [.nilsl, .nilsl, .nilsl, .nilsl, .nilsl, (.int .i64 (.ofNat 0)), (.int .i64 (.ofNat 0)), (.int .i64 (.ofNat 0)), (.int .i64 (.ofNat 0)), (.int .i64 (.ofNat 0)), .nilsl, .nilsl, .nilsl, .nilsl, .nilsl, .nilsl, (.int .i64 (.ofNat 0)), (.int .i64 (.ofNat 0)), (.int .i64 (.ofNat 0)), (.int .i64 (.ofNat 0)), (.int .i64 (.ofNat 0)), (.int .i64 (.ofNat 0))] [(0, 6, t48), (6, 7, t49), (13, 1, t52), (15, 1, t9)])) H fun t54 H =>
  pBox t54 H fun t55 H =>
  pFa 5 t11 H fun t56 H =>
  ldK .none H t56 fun t57 H =>
  pO (aLen .sl H t57) H fun t58 H =>
  S75_3 call q0 1000000 t1 t2 t4 t9 t43 t55 t41 t42 t43 t57 t58 (.int .i64 (.ofNat 0)) H)) (S75_0 call t4 H)) n
noncomputable def S75_7 (call : CallFn) (t1 t2 t4 : AV) (H : AHeap) : R :=
  pFa 3 t2 H fun t36 H =>
  ldK .none H t36 fun t37 H =>
  pO (aLen .sl H t37) H fun t38 H =>
  pN (aMksl 1 1 [(.bool false)] t38 t38) H fun t39 H =>
  pFa 4 t2 H fun t40 H =>
  ldK .none H t40 fun t41 H =>
  pO (aLen .sl H t41) H fun t42 H =>
  S75_1 call 1000000 t1 t2 t4 t39 t41 t42 (.int .i64 (.ofNat 0)) H
noncomputable def S75_8 (call : CallFn) (n : Nat) : AV → AV → AV → AV → AV → AV → AHeap → R :=
  Nat.rec (motive := fun _ => AV → AV → AV → AV → AV → AV → AHeap → R) (fun _ _ _ _ _ _ _ => none) (fun _ q3 t1 t2 t4 t23 t24 t25 H => pLss t25 t24 H fun t26 H =>
  onBool t26 (pIa 7 t23 t25 H fun t28 H =>
  ldK (.some 7) H t28 fun t29 H =>
  pNew [(.int .i64 (.ofNat 0)), (.int .i64 (.ofNat 0)), (.int .i64 (.ofNat 0)), (.int .i64 (.ofNat 0)), .nilsl, .nilsl, .nilsl] H fun t8 H =>
  stK 7 H t8 t29 fun _ H =>
  ldK (.some 7) H t8 fun t30 H =>
  pC call 110 [t30] H fun t31 H =>
  pO (aUn .not t31) H fun t32 H =>
  onBool t32 (pO (someAgg (aFill [(.int .i64 (.ofNat 0)), (.int .i64 (.ofNat 0)), (.int .i64 (.ofNat 0))] [(0, 1, t25), (1, 1, (.int .i64 (.negSucc 0))), (2, 1, (.int .i64 (.ofNat 3)))])) H fun t34 H =>
  stK 3 H t4 t34 fun _ H =>
  ob (allM (fun o => o) [aLoad (.some 3) H t4, some (.bool false)]) fun vs => some (resV vs, H)) (pAdd t25 (.int .i64 (.ofNat 1)) H fun t35 H =>
  q3 t1 t2 t4 t23 t24 t35 H)) (S75_7 call t1 t2 t4 H)) n
noncomputable def S75_9 (call : CallFn) (t0 t1 : AV) (H : AHeap) : R :=
  pBox t0 H fun t2 H =>
  pNew [(.int .i64 (.ofNat 0)), (.int .i64 (.ofNat 0)), (.int .i64 (.ofNat 0))] H fun t4 H =>
  ldK (.some 6) H t2 fun t16 H =>
  pC call 109 [t16] H fun t17 H =>
  pGtr t17 (.int .i64 (.ofNat 0)) H fun t19 H =>
  onBool t19 (pO (someAgg (aFill [(.int .i64 (.ofNat 0)), (.int .i64 (.ofNat 0)), (.int .i64 (.ofNat 0))] [(0, 1, (.int .i64 (.negSucc 0))), (1, 1, (.int .i64 (.negSucc 0))), (2, 1, t17)])) H fun t21 H =>
  stK 3 H t4 t21 fun _ H =>
  ob (allM (fun o => o) [aLoad (.some 3) H t4, some (.bool false)]) fun vs => some (resV vs, H)) (pFa 4 t2 H fun t22 H =>
  ldK .none H t22 fun t23 H =>
  pO (aLen .sl H t23) H fun t24 H =>
  S75_8 call 1000000 t1 t2 t4 t23 t24 (.int .i64 (.ofNat 0)) H)
noncomputable def S75 : Ff := ⟨fun call l H => argA2 (fun t0 t1 => S75_9 call t0 t1 H) l⟩
/- gantline/arena.New -/
noncomputable def S76_0 (_ : CallFn) (n : Nat) : AV → AV → AV → AHeap → R :=
  Nat.rec (motive := fun _ => AV → AV → AV → AHeap → R) (fun _ _ _ _ => none) (fun _ q0 t4 t23 t24 H => pLss t24 t23 H fun t25 H =>
  onBool t25 (pO (aNil t4) H fun t28 H =>
  pFa 1 t28 H fun t29 H =>
  ldK .none H t29 fun t30 H =>
  pIa 3 t30 t24 H fun t32 H =>
  pFa 0 t32 H fun t33 H =>
  stK 1 H t33 (.int .i64 (.negSucc 0)) fun _ H =>
  pAdd t24 (.int .i64 (.ofNat 1)) H fun t34 H =>
  q0 t4 t23 t34 H) (some (.tup [t4, (.int .i64 (.ofNat 0))], H))) n
noncomputable def S76_1 (call : CallFn) (t0 t8 t10 : AV) (H : AHeap) : R :=
  pPick t8 (.bool true) t10 H fun t11 H =>
  onBool t11 (some (.tup [.nilp, (.int .i64 (.ofNat 1))], H)) (pMul t0 (.int .i64 (.ofNat 64)) H fun t13 H =>
  pN (aMksl 1 8 [(.int .i64 (.ofNat 0))] t13 t13) H fun t14 H =>
  pN (aMksl 3 24 [(.int .i64 (.ofNat 0)), (.int .u64 (.ofNat 0)), (.int .u64 (.ofNat 0))] t0 t0) H fun t16 H =>
  pO (someAgg (aFill [.nilsl, .nilsl] [(0, 1, t14), (1, 1, t16)])) H fun t17 H =>
  pBox t17 H fun t18 H =>
  pO (aNil t18) H fun t20 H =>
  pFa 1 t20 H fun t21 H =>
  ldK .none H t21 fun t22 H =>
  pO (aLen .sl H t22) H fun t23 H =>
  S76_0 call 1000000 t18 t23 (.int .i64 (.ofNat 0)) H)
noncomputable def S76_2 (call : CallFn) (t0 : AV) (H : AHeap) : R :=
  pLss t0 (.int .i64 (.ofNat 8)) H fun t7 H =>
  guardA t7 false (pGtr t0 (.int .i64 (.ofNat 512)) H fun t10 H =>
  S76_1 call t0 t7 t10 H) (S76_1 call t0 t7 U H)
noncomputable def S76 : Ff := ⟨fun call l H => argA1 (fun t0 => S76_2 call t0 H) l⟩
/- gantline/head.New -/
noncomputable def S77_0 (_ : CallFn) (H : AHeap) : R :=
  pMap H fun t1 H =>
  pO (someAgg (aFill [.nilsl, .nilmap] [(1, 1, t1)])) H fun t2 H =>
  pBox t2 H fun t3 H =>
  some (t3, H)
noncomputable def S77 : Ff := ⟨fun call l H => argA0 (S77_0 call H) l⟩
end Go.Proofs.YtdccenbljfanpaaGreatDoor
