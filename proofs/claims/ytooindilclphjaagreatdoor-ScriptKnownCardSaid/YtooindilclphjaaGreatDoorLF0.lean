/- Plain functions, printed: part 0. -/
import Derived.Test.YtooindilclphjaaGreatDoorAdE
import Derived.Test.YtooindilclphjaaGreatDoorProg
import Derived.KernelRfl
namespace Go.Proofs.YtooindilclphjaaGreatDoor
open Go.Ab
set_option maxRecDepth 100000
/- gantline/gantlinelaw27.ScriptKnown -/
noncomputable def S3_0 (_ : CallFn) (t31 t33 : AV) (H : AHeap) : R :=
  pPick t31 t33 (.bool false) H fun t34 H =>
  some (t34, H)
noncomputable def S3_1 (call : CallFn) (t5 t27 t29 : AV) (H : AHeap) : R :=
  pPick t27 t29 (.bool false) H fun t30 H =>
  guardA t30 true (pEql t5 (.str [101, 114, 114, 111, 114, 32, 49, 10, 101, 114, 114, 111, 114, 32, 49, 10]) H fun t33 H =>
  S3_0 call t30 t33 H) (S3_0 call t30 U H)
noncomputable def S3_2 (call : CallFn) (t5 t6 t23 t25 : AV) (H : AHeap) : R :=
  pPick t23 t25 (.bool false) H fun t26 H =>
  guardA t26 true (pEql t6 (.int .i64 (.ofNat 0)) H fun t29 H =>
  S3_1 call t5 t26 t29 H) (S3_1 call t5 t26 U H)
noncomputable def S3_3 (call : CallFn) (H : AHeap) : R :=
  pC call 4 [] H fun t7 H =>
  pO (aUn .not t7) H fun t8 H =>
  onBool t8 (some ((.bool false), H)) (pC call 5 [(.str [102, 117, 110, 99, 32, 109, 97, 105, 110, 40, 41, 32, 123, 32, 125])] H fun t10 H =>
  pExt t10 0 H fun _ H =>
  pExt t10 1 H fun t12 H =>
  pC call 5 [(.str [45, 45, 45, 10, 119, 104, 97, 116, 10])] H fun t14 H =>
  pExt t14 0 H fun _ H =>
  pExt t14 1 H fun t16 H =>
  pC call 5 [(.str [102, 117, 110, 99, 32, 109, 97, 105, 110, 40, 41, 32, 123, 32, 125, 10, 45, 45, 45, 10, 114, 117, 110, 32, 55, 32, 49, 10, 102, 111, 108, 108, 111, 119, 32, 56, 32, 49, 48, 32, 49, 10])] H fun t18 H =>
  pExt t18 0 H fun t19 H =>
  pExt t18 1 H fun t20 H =>
  pEql t12 (.int .i64 (.ofNat 6)) H fun t22 H =>
  guardA t22 true (pEql t16 (.int .i64 (.ofNat 6)) H fun t25 H =>
  S3_2 call t19 t20 t22 t25 H) (S3_2 call t19 t20 t22 U H))
noncomputable def S3 : Ff := ⟨fun call l H => argA0 (S3_3 call H) l⟩
/- gantline/gantlinelaw27.awake -/
noncomputable def S4_0 (_ : CallFn) (t23 t25 : AV) (H : AHeap) : R :=
  pPick t23 t25 (.bool false) H fun t26 H =>
  some (t26, H)
noncomputable def S4_1 (call : CallFn) (t3 t19 t21 : AV) (H : AHeap) : R :=
  pPick t19 t21 (.bool false) H fun t22 H =>
  guardA t22 true (pEql t3 (.str [102, 97, 117, 108, 116, 32, 54, 32, 48, 10]) H fun t25 H =>
  S4_0 call t22 t25 H) (S4_0 call t22 U H)
noncomputable def S4_2 (call : CallFn) (t3 t4 t15 t17 : AV) (H : AHeap) : R :=
  pPick t15 t17 (.bool false) H fun t18 H =>
  guardA t18 true (pEql t4 (.int .i64 (.ofNat 0)) H fun t21 H =>
  S4_1 call t3 t18 t21 H) (S4_1 call t3 t18 U H)
noncomputable def S4_3 (call : CallFn) (H : AHeap) : R :=
  pC call 5 [(.str [102, 117, 110, 99, 32, 109, 97, 105, 110, 40, 41, 32, 123, 32, 125, 10, 45, 45, 45, 10, 114, 117, 110, 32, 56, 10])] H fun t6 H =>
  pExt t6 0 H fun t7 H =>
  pExt t6 1 H fun t8 H =>
  pC call 5 [(.str [120, 10, 45, 45, 45, 10, 99, 111, 100, 101, 10])] H fun t10 H =>
  pExt t10 0 H fun t11 H =>
  pExt t10 1 H fun t12 H =>
  pEql t8 (.int .i64 (.ofNat 0)) H fun t14 H =>
  guardA t14 true (pEql t7 (.str [111, 117, 116, 32, 101, 110, 100, 32, 48, 32, 48, 32, 115, 116, 101, 112, 115, 32, 48, 10]) H fun t17 H =>
  S4_2 call t11 t12 t14 t17 H) (S4_2 call t11 t12 t14 U H)
noncomputable def S4 : Ff := ⟨fun call l H => argA0 (S4_3 call H) l⟩
/- gantline/script.Run -/
noncomputable def S5_0 (call : CallFn) (t9 : AV) (H : AHeap) : R :=
  pC call 11 [t9] H fun t52 H =>
  some (.tup [t52, (.int .i64 (.ofNat 0))], H)
noncomputable def S5_2 (_ : CallFn) (q0 : AV → AV → AV → AV → AV → AV → AHeap → R) (t7 t8 t9 t26 t27 t28 : AV) (H : AHeap) : R :=
  pAdd t28 (.int .i64 (.ofNat 1)) H fun t51 H =>
  q0 t7 t8 t9 t26 t27 t51 H
noncomputable def S5_1 (call : CallFn) (n : Nat) : AV → AV → AV → AV → AV → AV → AHeap → R :=
  Nat.rec (motive := fun _ => AV → AV → AV → AV → AV → AV → AHeap → R) (fun _ _ _ _ _ _ _ => none) (fun _ q0 t7 t8 t9 t26 t27 t28 H => pLss t28 t27 H fun t29 H =>
  onBool t29 (pIa 2 t26 t28 H fun t30 H =>
  ldK (.some 2) H t30 fun t31 H =>
  pNew [(.str []), .nilsl] H fun t11 H =>
  stK 2 H t11 t31 fun _ H =>
  pFa 0 t8 H fun t32 H =>
  ldK .none H t32 fun t33 H =>
  pNeq t33 (.int .i64 (.ofNat 0)) H fun t34 H =>
  onBool t34 (pFa 0 t8 H fun t35 H =>
  ldK .none H t35 fun t36 H =>
  pFa 1 t8 H fun t40 H =>
  ldK .none H t40 fun t41 H =>
  pC call 9 [t36] H fun t37 H =>
  andR (andB (ckV (aLoad .none H t40) t41) true) (
  pAdd (.str [102, 97, 117, 108, 116, 32]) t37 H fun t38 H =>
  pAdd t38 (.str [32]) H fun t39 H =>
  pC call 9 [t41] H fun t42 H =>
  pAdd t39 t42 H fun t43 H =>
  pAdd t43 (.str [10]) H fun t44 H =>
  pC call 8 [t9, t44] H fun _ H =>
  S5_2 call q0 t7 t8 t9 t26 t27 t28 H)) (ldK (.some 2) H t11 fun t46 H =>
  ldK (.some 6) H t7 fun t47 H =>
  pC call 10 [t46, t47] H fun t48 H =>
  pAdd t48 (.str [10]) H fun t49 H =>
  pC call 8 [t9, t49] H fun _ H =>
  S5_2 call q0 t7 t8 t9 t26 t27 t28 H)) (S5_0 call t9 H)) n
noncomputable def S5_3 (call : CallFn) (t0 : AV) (H : AHeap) : R :=
  pC call 6 [t0] H fun t14 H =>
  pExt t14 0 H fun t15 H =>
  pExt t14 1 H fun t16 H =>
  pExt t14 2 H fun t17 H =>
  pNeq t17 (.int .i64 (.ofNat 0)) H fun t19 H =>
  onBool t19 (some (.tup [(.str []), t17], H)) (pC call 7 [t15] H fun t23 H =>
  pExt t23 0 H fun t24 H =>
  pExt t23 1 H fun t25 H =>
  pNew [.nilsl, .nilsl, .nilsl, .nilsl, .nilsl, (.int .i64 (.ofNat 0))] H fun t7 H =>
  pNew [(.int .i64 (.ofNat 0)), (.int .i64 (.ofNat 0))] H fun t8 H =>
  stK 6 H t7 t24 fun _ H =>
  stK 2 H t8 t25 fun _ H =>
  pNewB 43 H fun t9 H =>
  pO (aLen .sl H t16) H fun t27 H =>
  S5_1 call 1000000 t7 t8 t9 t16 t27 (.int .i64 (.ofNat 0)) H)
noncomputable def S5 : Ff := ⟨fun call l H => argA1 (fun t0 => S5_3 call t0 H) l⟩
/- gantline/script.parse -/
noncomputable def S6_1 (_ : CallFn) (q0 : AV → AV → AV → AV → AV → AHeap → R) (t7 t10 t70 t71 t72 : AV) (H : AHeap) : R :=
  pAdd t72 (.int .i64 (.ofNat 1)) H fun t92 H =>
  q0 t7 t10 t70 t71 t92 H
noncomputable def S6_0 (call : CallFn) (n : Nat) : AV → AV → AV → AV → AV → AHeap → R :=
  Nat.rec (motive := fun _ => AV → AV → AV → AV → AV → AHeap → R) (fun _ _ _ _ _ _ => none) (fun _ q0 t7 t10 t70 t71 t72 H => pLss t72 t71 H fun t73 H =>
  onBool t73 (pIa 1 t70 t72 H fun t74 H =>
  ldK .none H t74 fun t75 H =>
  pC call 13 [t75] H fun t77 H =>
  pO (aLen .sl H t77) H fun t79 H =>
  pEql t79 (.int .i64 (.ofNat 0)) H fun t80 H =>
  onBool t80 (S6_1 call q0 t7 t10 t70 t71 t72 H) (pC call 14 [t77] H fun t83 H =>
  pExt t83 0 H fun t84 H =>
  pExt t83 1 H fun t85 H =>
  pNew [(.str []), .nilsl] H fun t14 H =>
  stK 2 H t14 t84 fun _ H =>
  pO (aUn .not t85) H fun t87 H =>
  onBool t87 (some (.tup [(.str []), .nilsl, (.int .i64 (.ofNat 6))], H)) (ldK (.some 2) H t14 fun t89 H =>
  pN (aBsl 2 1 [(.str []), .nilsl] [(0, 2, t89)]) H fun t90 H =>
  pW (aApp 2 40 H t10 t90) fun t91 H =>
  S6_1 call q0 t7 t91 t70 t71 t72 H))) (some (.tup [t7, t10, (.int .i64 (.ofNat 0))], H))) n
noncomputable def S6_2 (call : CallFn) (t5 t6 t7 : AV) (H : AHeap) : R :=
  pAdd t6 (.int .i64 (.ofNat 1)) H fun t65 H =>
  pO (aSlice 1 H t5 (.some t65) .none .none) H fun t66 H =>
  pO (aLen .sl H t66) H fun t68 H =>
  pGtr t68 (.int .i64 (.ofNat 200)) H fun t69 H =>
  onBool t69 (some (.tup [(.str []), .nilsl, (.int .i64 (.ofNat 2))], H)) (pO (aLen .sl H t66) H fun t71 H =>
  S6_0 call 1000000 t7 .nilsl t66 t71 (.int .i64 (.ofNat 0)) H)
noncomputable def S6_3 (call : CallFn) (n : Nat) : AV → AV → AV → AV → AV → AV → AHeap → R :=
  Nat.rec (motive := fun _ => AV → AV → AV → AV → AV → AV → AHeap → R) (fun _ _ _ _ _ _ _ => none) (fun _ q1 t5 t6 t7 t52 t53 t54 H => pLss t54 t53 H fun t55 H =>
  onBool t55 (pIa 1 t52 t54 H fun t56 H =>
  ldK .none H t56 fun t57 H =>
  pAdd t57 (.str [10]) H fun t60 H =>
  pAdd t7 t60 H fun t61 H =>
  pAdd t54 (.int .i64 (.ofNat 1)) H fun t62 H =>
  q1 t5 t6 t61 t52 t53 t62 H) (S6_2 call t5 t6 t7 H)) n
noncomputable def S6_4 (call : CallFn) (t5 t6 : AV) (H : AHeap) : R :=
  pO (aLen .sl H t5) H fun t48 H =>
  pEql t6 t48 H fun t49 H =>
  onBool t49 (some (.tup [(.str []), .nilsl, (.int .i64 (.ofNat 6))], H)) (pO (aSlice 1 H t5 .none (.some t6) .none) H fun t52 H =>
  pO (aLen .sl H t52) H fun t53 H =>
  S6_3 call 1000000 t5 t6 (.str []) t52 t53 (.int .i64 (.ofNat 0)) H)
noncomputable def S6_6 (call : CallFn) (q2 : AV → AV → AHeap → R) (t5 t6 t37 t42 : AV) (H : AHeap) : R :=
  pPick t37 t42 (.bool false) H fun t43 H =>
  onBool t43 (pAdd t6 (.int .i64 (.ofNat 1)) H fun t45 H =>
  q2 t5 t45 H) (S6_4 call t5 t6 H)
noncomputable def S6_5 (call : CallFn) (n : Nat) : AV → AV → AHeap → R :=
  Nat.rec (motive := fun _ => AV → AV → AHeap → R) (fun _ _ _ => none) (fun _ q2 t5 t6 H => pO (aLen .sl H t5) H fun t35 H =>
  pLss t6 t35 H fun t36 H =>
  guardA t36 true (pIa 1 t5 t6 H fun t40 H =>
  ldK .none H t40 fun t41 H =>
  pNeq t41 (.str [45, 45, 45]) H fun t42 H =>
  S6_6 call q2 t5 t6 t36 t42 H) (S6_6 call q2 t5 t6 t36 U H)) n
noncomputable def S6_7 (call : CallFn) (t0 : AV) (H : AHeap) : R :=
  pO (aLen .str H t0) H fun t17 H =>
  pGtr t17 (.int .i64 (.ofNat 16384)) H fun t18 H =>
  onBool t18 (some (.tup [(.str []), .nilsl, (.int .i64 (.ofNat 2))], H)) (pC call 12 [t0, (.str [10])] H fun t20 H =>
  pO (aLen .sl H t20) H fun t23 H =>
  pSub t23 (.int .i64 (.ofNat 1)) H fun t24 H =>
  pIa 1 t20 t24 H fun t25 H =>
  ldK .none H t25 fun t26 H =>
  pEql t26 (.str []) H fun t27 H =>
  onBool t27 (pO (aLen .sl H t20) H fun t30 H =>
  pSub t30 (.int .i64 (.ofNat 1)) H fun t31 H =>
  pO (aSlice 1 H t20 .none (.some t31) .none) H fun t32 H =>
  S6_5 call 1000000 t32 (.int .i64 (.ofNat 0)) H) (S6_5 call 1000000 t20 (.int .i64 (.ofNat 0)) H))
noncomputable def S6 : Ff := ⟨fun call l H => argA1 (fun t0 => S6_7 call t0 H) l⟩
/- gantline/compile.Compile -/
noncomputable def S7_0 (call : CallFn) (t0 : AV) (H : AHeap) : R :=
  pNew [.nilsl, .nilsl, .nilsl, .nilsl, .nilsl, (.int .i64 (.ofNat 0))] H fun t2 H =>
  pNew [(.int .i64 (.ofNat 0)), (.int .i64 (.ofNat 0))] H fun t3 H =>
  pC call 15 [t0] H fun t12 H =>
  pExt t12 0 H fun t13 H =>
  pExt t12 1 H fun t14 H =>
  pExt t12 2 H fun t15 H =>
  pNew [(.str []), (.str []), (.int .i64 (.ofNat 0)), .nilsl] H fun t4 H =>
  stK 4 H t4 t13 fun _ H =>
  pNeq t15 (.int .i64 (.ofNat 0)) H fun t17 H =>
  onBool t17 (pO (someAgg (aFill [.nilsl, .nilsl, .nilsl, .nilsl, .nilsl, (.int .i64 (.ofNat 0))] [])) H fun t18 H =>
  pO (someAgg (aFill [(.int .i64 (.ofNat 0)), (.int .i64 (.ofNat 0))] [(0, 1, t15), (1, 1, t14)])) H fun t21 H =>
  stK 6 H t2 t18 fun _ H =>
  stK 2 H t3 t21 fun _ H =>
  ob (allM (fun o => o) [aLoad (.some 6) H t2, aLoad (.some 2) H t3]) fun vs => some (resV vs, H)) (ldK (.some 4) H t4 fun t23 H =>
  pC call 16 [t23] H fun t24 H =>
  pExt t24 0 H fun t25 H =>
  pExt t24 1 H fun t26 H =>
  pNeq t26 (.int .i64 (.ofNat 0)) H fun t28 H =>
  onBool t28 (pO (someAgg (aFill [.nilsl, .nilsl, .nilsl, .nilsl, .nilsl, (.int .i64 (.ofNat 0))] [])) H fun t29 H =>
  pO (someAgg (aFill [(.int .i64 (.ofNat 0)), (.int .i64 (.ofNat 0))] [(0, 1, t26), (1, 1, t25)])) H fun t32 H =>
  stK 6 H t2 t29 fun _ H =>
  stK 2 H t3 t32 fun _ H =>
  ob (allM (fun o => o) [aLoad (.some 6) H t2, aLoad (.some 2) H t3]) fun vs => some (resV vs, H)) (ldK (.some 4) H t4 fun t34 H =>
  pC call 17 [t34] H fun t35 H =>
  pExt t35 0 H fun t36 H =>
  pExt t35 1 H fun t37 H =>
  pNew [.nilsl, .nilsl, .nilsl, .nilsl, .nilsl, (.int .i64 (.ofNat 0))] H fun t9 H =>
  stK 6 H t9 t36 fun _ H =>
  pNeq t37 (.int .i64 (.ofNat 0)) H fun t39 H =>
  onBool t39 (pO (someAgg (aFill [.nilsl, .nilsl, .nilsl, .nilsl, .nilsl, (.int .i64 (.ofNat 0))] [])) H fun t40 H =>
  pO (someAgg (aFill [(.int .i64 (.ofNat 0)), (.int .i64 (.ofNat 0))] [(0, 1, t37), (1, 1, (.int .i64 (.ofNat 0)))])) H fun t42 H =>
  stK 6 H t2 t40 fun _ H =>
  stK 2 H t3 t42 fun _ H =>
  ob (allM (fun o => o) [aLoad (.some 6) H t2, aLoad (.some 2) H t3]) fun vs => some (resV vs, H)) (ldK (.some 6) H t9 fun t44 H =>
  pC call 18 [t44] H fun t45 H =>
  pExt t45 0 H fun t46 H =>
  pExt t45 1 H fun t47 H =>
  stK 6 H t9 t46 fun _ H =>
  pNeq t47 (.int .i64 (.ofNat 0)) H fun t49 H =>
  onBool t49 (pO (someAgg (aFill [.nilsl, .nilsl, .nilsl, .nilsl, .nilsl, (.int .i64 (.ofNat 0))] [])) H fun t50 H =>
  pO (someAgg (aFill [(.int .i64 (.ofNat 0)), (.int .i64 (.ofNat 0))] [(0, 1, t47), (1, 1, (.int .i64 (.ofNat 0)))])) H fun t52 H =>
  stK 6 H t2 t50 fun _ H =>
  stK 2 H t3 t52 fun _ H =>
  ob (allM (fun o => o) [aLoad (.some 6) H t2, aLoad (.some 2) H t3]) fun vs => some (resV vs, H)) (ldK (.some 6) H t9 fun t53 H =>
  pO (someAgg (aFill [(.int .i64 (.ofNat 0)), (.int .i64 (.ofNat 0))] [])) H fun t54 H =>
  stK 6 H t2 t53 fun _ H =>
  stK 2 H t3 t54 fun _ H =>
  ob (allM (fun o => o) [aLoad (.some 6) H t2, aLoad (.some 2) H t3]) fun vs => some (resV vs, H)))))
noncomputable def S7 : Ff := ⟨fun call l H => argA1 (fun t0 => S7_0 call t0 H) l⟩
/- strconv.Itoa -/
noncomputable def S9_0 (call : CallFn) (t0 : AV) (H : AHeap) : R :=
  pC call 20 [t0] H fun t4 H =>
  some (t4, H)
noncomputable def S9 : Ff := ⟨fun call l H => argA1 (fun t0 => S9_0 call t0 H) l⟩
/- (gantline/script.line).answer -/
noncomputable def S10_0 (call : CallFn) (t0 t1 : AV) (H : AHeap) : R :=
  pBox t0 H fun t2 H =>
  pBox t1 H fun t3 H =>
  pFa 0 t2 H fun t15 H =>
  ldK .none H t15 fun t16 H =>
  pEql t16 (.str [114, 117, 110]) H fun t18 H =>
  onBool t18 (ldK (.some 6) H t3 fun t20 H =>
  pFa 1 t2 H fun t21 H =>
  ldK .none H t21 fun t22 H =>
  pIa 1 t22 (.int .i64 (.ofNat 0)) H fun t23 H =>
  ldK .none H t23 fun t24 H =>
  pFa 1 t2 H fun t25 H =>
  ldK .none H t25 fun t26 H =>
  pO (aSlice 1 H t26 (.some (.int .i64 (.ofNat 1))) .none .none) H fun t27 H =>
  pNew [.nilsl, (.int .i64 (.ofNat 0)), (.int .i64 (.ofNat 0)), (.int .i64 (.ofNat 0)), (.int .i64 (.ofNat 0)), (.int .i64 (.ofNat 0)), .nilsl] H fun t5 H =>
  pC call 21 [t20, t24, t27] H fun t28 H =>
  pExt t28 0 H fun t29 H =>
  pExt t28 1 H fun t30 H =>
  stK 7 H t5 t29 fun _ H =>
  ldK (.some 7) H t5 fun t31 H =>
  pFa 3 t5 H fun t33 H =>
  ldK .none H t33 fun t34 H =>
  pC call 22 [t31, t30, (.str [115, 116, 101, 112, 115]), t34] H fun t35 H =>
  some (t35, H)) (pEql t16 (.str [102, 111, 108, 108, 111, 119]) H fun t37 H =>
  onBool t37 (ldK (.some 6) H t3 fun t39 H =>
  pFa 1 t2 H fun t40 H =>
  ldK .none H t40 fun t41 H =>
  pIa 1 t41 (.int .i64 (.ofNat 0)) H fun t42 H =>
  ldK .none H t42 fun t43 H =>
  pFa 1 t2 H fun t44 H =>
  ldK .none H t44 fun t45 H =>
  pO (aSlice 1 H t45 (.some (.int .i64 (.ofNat 2))) .none .none) H fun t46 H =>
  pFa 1 t2 H fun t47 H =>
  ldK .none H t47 fun t48 H =>
  pIa 1 t48 (.int .i64 (.ofNat 1)) H fun t49 H =>
  ldK .none H t49 fun t50 H =>
  pNew [.nilsl, (.int .i64 (.ofNat 0)), (.int .i64 (.ofNat 0)), (.int .i64 (.ofNat 0)), (.int .i64 (.ofNat 0)), (.int .i64 (.ofNat 0)), .nilsl] H fun t7 H =>
  pC call 23 [t39, t43, t46, t50] H fun t51 H =>
  pExt t51 0 H fun t52 H =>
  pExt t51 1 H fun t53 H =>
  pExt t51 2 H fun t54 H =>
  stK 7 H t7 t52 fun _ H =>
  ldK (.some 7) H t7 fun t55 H =>
  pC call 22 [t55, t54, (.str [100, 111, 110, 101]), t53] H fun t58 H =>
  some (t58, H)) (pEql t16 (.str [115, 101, 101, 100]) H fun t60 H =>
  onBool t60 (ldK (.some 6) H t3 fun t62 H =>
  pFa 1 t2 H fun t63 H =>
  ldK .none H t63 fun t64 H =>
  pIa 1 t64 (.int .i64 (.ofNat 0)) H fun t65 H =>
  ldK .none H t65 fun t66 H =>
  pFa 1 t2 H fun t67 H =>
  ldK .none H t67 fun t68 H =>
  pIa 1 t68 (.int .i64 (.ofNat 1)) H fun t69 H =>
  ldK .none H t69 fun t70 H =>
  pFa 1 t2 H fun t71 H =>
  ldK .none H t71 fun t72 H =>
  pIa 1 t72 (.int .i64 (.ofNat 2)) H fun t73 H =>
  ldK .none H t73 fun t74 H =>
  pNew [.nilsl, (.int .i64 (.ofNat 0)), (.int .i64 (.ofNat 0)), (.int .i64 (.ofNat 0)), (.int .i64 (.ofNat 0)), (.int .i64 (.ofNat 0)), .nilsl] H fun t10 H =>
  pC call 24 [t70, t74] H fun t75 H =>
  andR (andB (ckV (aLoad (.some 6) H t3) t62) (andB (ckV (aLoad .none H t63) t64) (andB (ckV (aLoad .none H t65) t66) true))) (
  pC call 21 [t62, t66, t75] H fun t76 H =>
  pExt t76 0 H fun t77 H =>
  pExt t76 1 H fun t78 H =>
  stK 7 H t10 t77 fun _ H =>
  ldK (.some 7) H t10 fun t79 H =>
  pFa 3 t10 H fun t81 H =>
  ldK .none H t81 fun t82 H =>
  pC call 22 [t79, t78, (.str [115, 116, 101, 112, 115]), t82] H fun t83 H =>
  some (t83, H))) (ldK (.some 6) H t3 fun t85 H =>
  pC call 25 [t85] H fun t86 H =>
  pExt t86 0 H fun t87 H =>
  pExt t86 1 H fun t88 H =>
  pExt t86 2 H fun t89 H =>
  pFa 4 t3 H fun t90 H =>
  ldK .none H t90 fun t91 H =>
  pO (aLen .sl H t91) H fun t92 H =>
  pC call 9 [t92] H fun t93 H =>
  pAdd (.str [102, 117, 110, 99, 115, 32]) t93 H fun t94 H =>
  pAdd t94 (.str [32, 112, 111, 108, 108, 115, 32]) H fun t95 H =>
  pC call 9 [t87] H fun t97 H =>
  pAdd t95 t97 H fun t98 H =>
  pAdd t98 (.str [32, 115, 112, 97, 114, 101, 32]) H fun t99 H =>
  pC call 9 [t88] H fun t101 H =>
  pAdd t99 t101 H fun t102 H =>
  pAdd t102 (.str [32, 98, 97, 114, 114, 105, 101, 114, 115, 32]) H fun t103 H =>
  pC call 9 [t89] H fun t105 H =>
  pAdd t103 t105 H fun t106 H =>
  some (t106, H))))
noncomputable def S10 : Ff := ⟨fun call l H => argA2 (fun t0 t1 => S10_0 call t0 t1 H) l⟩
/- strings.Split -/
noncomputable def S12_0 (call : CallFn) (t0 t1 : AV) (H : AHeap) : R :=
  pC call 26 [t0, t1, (.int .i64 (.ofNat 0)), (.int .i64 (.negSucc 0))] H fun t7 H =>
  some (t7, H)
noncomputable def S12 : Ff := ⟨fun call l H => argA2 (fun t0 t1 => S12_0 call t0 t1 H) l⟩
/- gantline/script.words -/
noncomputable def S13_1 (_ : CallFn) (q0 : AV → AV → AV → AV → AHeap → R) (t3 t7 t8 t9 : AV) (H : AHeap) : R :=
  pAdd t9 (.int .i64 (.ofNat 1)) H fun t19 H =>
  q0 t3 t7 t8 t19 H
noncomputable def S13_0 (call : CallFn) (n : Nat) : AV → AV → AV → AV → AHeap → R :=
  Nat.rec (motive := fun _ => AV → AV → AV → AV → AHeap → R) (fun _ _ _ _ _ => none) (fun _ q0 t3 t7 t8 t9 H => pLss t9 t8 H fun t10 H =>
  onBool t10 (pIa 1 t7 t9 H fun t11 H =>
  ldK .none H t11 fun t12 H =>
  pNeq t12 (.str []) H fun t14 H =>
  onBool t14 (pN (aBsl 1 1 [(.str [])] [(0, 1, t12)]) H fun t17 H =>
  pW (aApp 1 16 H t3 t17) fun t18 H =>
  S13_1 call q0 t18 t7 t8 t9 H) (S13_1 call q0 t3 t7 t8 t9 H)) (some (t3, H))) n
noncomputable def S13_2 (call : CallFn) (t0 : AV) (H : AHeap) : R :=
  pC call 12 [t0, (.str [32])] H fun t7 H =>
  pO (aLen .sl H t7) H fun t8 H =>
  S13_0 call 1000000 .nilsl t7 t8 (.int .i64 (.ofNat 0)) H
noncomputable def S13 : Ff := ⟨fun call l H => argA1 (fun t0 => S13_2 call t0 H) l⟩
/- gantline/script.read -/
noncomputable def S14_0 (call : CallFn) (t2 t4 : AV) (H : AHeap) : R :=
  ldK (.some 2) H t4 fun t35 H =>
  ldK (.some 2) H t4 fun t36 H =>
  pC call 28 [t36] H fun t37 H =>
  andR (andB (ckV (aLoad (.some 2) H t4) t35) true) (
  stK 2 H t2 t35 fun _ H =>
  ob (allM (fun o => o) [aLoad (.some 2) H t2, some t37]) fun vs => some (resV vs, H))
noncomputable def S14_1 (call : CallFn) (n : Nat) : AV → AV → AV → AV → AV → AHeap → R :=
  Nat.rec (motive := fun _ => AV → AV → AV → AV → AV → AHeap → R) (fun _ _ _ _ _ _ => none) (fun _ q0 t2 t4 t14 t15 t16 H => pLss t16 t15 H fun t17 H =>
  onBool t17 (pIa 1 t14 t16 H fun t18 H =>
  ldK .none H t18 fun t19 H =>
  pC call 27 [t19] H fun t22 H =>
  pExt t22 0 H fun t23 H =>
  pExt t22 1 H fun t24 H =>
  pO (aUn .not t24) H fun t26 H =>
  onBool t26 (pO (someAgg (aFill [(.str []), .nilsl] [])) H fun t27 H =>
  stK 2 H t2 t27 fun _ H =>
  ob (allM (fun o => o) [aLoad (.some 2) H t2, some (.bool false)]) fun vs => some (resV vs, H)) (pFa 1 t4 H fun t28 H =>
  ldK .none H t28 fun t29 H =>
  pN (aBsl 1 1 [(.int .i64 (.ofNat 0))] [(0, 1, t23)]) H fun t31 H =>
  pW (aApp 1 8 H t29 t31) fun t32 H =>
  pFa 1 t4 H fun t33 H =>
  stK 1 H t33 t32 fun _ H =>
  pAdd t16 (.int .i64 (.ofNat 1)) H fun t34 H =>
  q0 t2 t4 t14 t15 t34 H)) (S14_0 call t2 t4 H)) n
noncomputable def S14_2 (call : CallFn) (t0 : AV) (H : AHeap) : R :=
  pNew [(.str []), .nilsl] H fun t2 H =>
  pIa 1 t0 (.int .i64 (.ofNat 0)) H fun t10 H =>
  ldK .none H t10 fun t11 H =>
  pO (someAgg (aFill [(.str []), .nilsl] [(0, 1, t11)])) H fun t12 H =>
  pNew [(.str []), .nilsl] H fun t4 H =>
  stK 2 H t4 t12 fun _ H =>
  pO (aSlice 1 H t0 (.some (.int .i64 (.ofNat 1))) .none .none) H fun t14 H =>
  pO (aLen .sl H t14) H fun t15 H =>
  S14_1 call 1000000 t2 t4 t14 t15 (.int .i64 (.ofNat 0)) H
noncomputable def S14 : Ff := ⟨fun call l H => argA1 (fun t0 => S14_2 call t0 H) l⟩
/- gantline/parse.Parse -/
noncomputable def S15_0 (call : CallFn) (t0 : AV) (H : AHeap) : R :=
  pNew [(.str []), (.str []), (.int .i64 (.ofNat 0)), .nilsl] H fun t2 H =>
  pC call 29 [t0] H fun t12 H =>
  pExt t12 0 H fun t13 H =>
  pExt t12 1 H fun t14 H =>
  pExt t12 2 H fun t15 H =>
  pNeq t15 (.int .i64 (.ofNat 0)) H fun t17 H =>
  onBool t17 (pO (someAgg (aFill [(.str []), (.str []), (.int .i64 (.ofNat 0)), .nilsl] [])) H fun t18 H =>
  stK 4 H t2 t18 fun _ H =>
  ob (allM (fun o => o) [aLoad (.some 4) H t2, some t14, some t15]) fun vs => some (resV vs, H)) (pO (someAgg (aFill [.nilsl, (.int .i64 (.ofNat 0)), (.int .i64 (.ofNat 0)), (.int .i64 (.ofNat 0)), (.int .i64 (.ofNat 0))] [(0, 1, t13)])) H fun t22 H =>
  pBox t22 H fun t23 H =>
  pC call 30 [t23] H fun t25 H =>
  pNew [(.str []), (.str []), (.int .i64 (.ofNat 0)), .nilsl] H fun t9 H =>
  stK 4 H t9 t25 fun _ H =>
  pO (aNil t23) H fun t27 H =>
  pFa 3 t27 H fun t28 H =>
  ldK .none H t28 fun t29 H =>
  pNeq t29 (.int .i64 (.ofNat 0)) H fun t30 H =>
  onBool t30 (pO (someAgg (aFill [(.str []), (.str []), (.int .i64 (.ofNat 0)), .nilsl] [])) H fun t31 H =>
  pO (aNil t23) H fun t33 H =>
  pFa 4 t33 H fun t34 H =>
  ldK .none H t34 fun t35 H =>
  pO (aNil t23) H fun t37 H =>
  pFa 3 t37 H fun t38 H =>
  ldK .none H t38 fun t39 H =>
  stK 4 H t2 t31 fun _ H =>
  andR (andB (ckV (aLoad .none H t34) t35) (andB (ckV (aLoad .none H t38) t39) true)) (
  ob (allM (fun o => o) [aLoad (.some 4) H t2, some t35, some t39]) fun vs => some (resV vs, H))) (ldK (.some 4) H t9 fun t40 H =>
  stK 4 H t2 t40 fun _ H =>
  ob (allM (fun o => o) [aLoad (.some 4) H t2, some (.int .i64 (.ofNat 0)), some (.int .i64 (.ofNat 0))]) fun vs => some (resV vs, H)))
noncomputable def S15 : Ff := ⟨fun call l H => argA1 (fun t0 => S15_0 call t0 H) l⟩
/- gantline/check.Check -/
noncomputable def S16_0 (_ : CallFn) (t4 : AV) (H : AHeap) : R :=
  pO (aNil t4) H fun t106 H =>
  pFa 4 t106 H fun t107 H =>
  ldK .none H t107 fun t108 H =>
  onBool t108 (pO (aNil t4) H fun t110 H =>
  pFa 5 t110 H fun t111 H =>
  ldK .none H t111 fun t112 H =>
  some (.tup [t112, (.int .i64 (.ofNat 7))], H)) (some (.tup [(.int .i64 (.ofNat 0)), (.int .i64 (.ofNat 0))], H))
noncomputable def S16_2 (_ : CallFn) (q0 : AV → AV → AV → AV → AHeap → R) (t4 t85 t86 t87 : AV) (H : AHeap) : R :=
  pAdd t87 (.int .i64 (.ofNat 1)) H fun t104 H =>
  q0 t4 t85 t86 t104 H
noncomputable def S16_3 (call : CallFn) (q0 : AV → AV → AV → AV → AHeap → R) (t4 t11 t85 t86 t87 t94 t99 : AV) (H : AHeap) : R :=
  pPick t94 t99 (.bool false) H fun t100 H =>
  onBool t100 (ldK (.some 4) H t11 fun t102 H =>
  pC call 36 [t4, t102] H fun _ H =>
  S16_2 call q0 t4 t85 t86 t87 H) (S16_2 call q0 t4 t85 t86 t87 H)
noncomputable def S16_1 (call : CallFn) (n : Nat) : AV → AV → AV → AV → AHeap → R :=
  Nat.rec (motive := fun _ => AV → AV → AV → AV → AHeap → R) (fun _ _ _ _ _ => none) (fun _ q0 t4 t85 t86 t87 H => pLss t87 t86 H fun t88 H =>
  onBool t88 (pIa 4 t85 t87 H fun t89 H =>
  ldK (.some 4) H t89 fun t90 H =>
  pNew [(.str []), (.str []), (.int .i64 (.ofNat 0)), .nilsl] H fun t11 H =>
  stK 4 H t11 t90 fun _ H =>
  pFa 0 t11 H fun t91 H =>
  ldK .none H t91 fun t92 H =>
  pEql t92 (.str [102, 117, 110, 99]) H fun t93 H =>
  guardA t93 true (pO (aNil t4) H fun t96 H =>
  pFa 4 t96 H fun t97 H =>
  ldK .none H t97 fun t98 H =>
  pO (aUn .not t98) H fun t99 H =>
  S16_3 call q0 t4 t11 t85 t86 t87 t93 t99 H) (S16_3 call q0 t4 t11 t85 t86 t87 t93 U H)) (S16_0 call t4 H)) n
noncomputable def S16_4 (call : CallFn) (t1 t4 t9 t63 t74 t80 : AV) (H : AHeap) : R :=
  pPick t74 t80 (.bool false) H fun t81 H =>
  ldK (.some 4) H t9 fun t82 H =>
  pC call 35 [t63, t81, t82] H fun _ H =>
  pFa 3 t1 H fun t84 H =>
  ldK .none H t84 fun t85 H =>
  pO (aLen .sl H t85) H fun t86 H =>
  S16_1 call 1000000 t4 t85 t86 (.int .i64 (.ofNat 0)) H
noncomputable def S16_5 (call : CallFn) (t1 t4 t9 t63 t74 t79 : AV) (H : AHeap) : R :=
  guardA t74 true (pEql t79 (.str [110, 111, 110, 101]) H fun t80 H =>
  S16_4 call t1 t4 t9 t63 t74 t80 H) (S16_4 call t1 t4 t9 t63 t74 U H)
noncomputable def S16_6 (call : CallFn) (t1 t4 t9 t63 t74 t78 : AV) (H : AHeap) : R :=
  guardA t74 true (ldK .none H t78 fun t79 H =>
  S16_5 call t1 t4 t9 t63 t74 t79 H) (S16_5 call t1 t4 t9 t63 t74 U H)
noncomputable def S16_7 (call : CallFn) (t1 t4 t9 t63 t74 t77 : AV) (H : AHeap) : R :=
  guardA t74 true (pFa 0 t77 H fun t78 H =>
  S16_6 call t1 t4 t9 t63 t74 t78 H) (S16_6 call t1 t4 t9 t63 t74 U H)
noncomputable def S16_8 (call : CallFn) (t1 t4 t9 t63 t74 t76 : AV) (H : AHeap) : R :=
  guardA t74 true (pIa 4 t76 (.int .i64 (.ofNat 1)) H fun t77 H =>
  S16_7 call t1 t4 t9 t63 t74 t77 H) (S16_7 call t1 t4 t9 t63 t74 U H)
noncomputable def S16_9 (call : CallFn) (t1 t4 t9 t63 t74 t75 : AV) (H : AHeap) : R :=
  guardA t74 true (ldK .none H t75 fun t76 H =>
  S16_8 call t1 t4 t9 t63 t74 t76 H) (S16_8 call t1 t4 t9 t63 t74 U H)
noncomputable def S16_10 (call : CallFn) (t1 t4 t7 t9 t63 t65 t72 : AV) (H : AHeap) : R :=
  pPick t65 t72 (.bool false) H fun t73 H =>
  guardA t73 true (pFa 3 t7 H fun t75 H =>
  S16_9 call t1 t4 t9 t63 t73 t75 H) (S16_9 call t1 t4 t9 t63 t73 U H)
noncomputable def S16_11 (call : CallFn) (t1 t4 t7 t9 t63 t65 t71 : AV) (H : AHeap) : R :=
  guardA t65 true (pEql t71 (.int .i64 (.ofNat 0)) H fun t72 H =>
  S16_10 call t1 t4 t7 t9 t63 t65 t72 H) (S16_10 call t1 t4 t7 t9 t63 t65 U H)
noncomputable def S16_12 (call : CallFn) (t1 t4 t7 t9 t63 t65 t70 : AV) (H : AHeap) : R :=
  guardA t65 true (pO (aLen .sl H t70) H fun t71 H =>
  S16_11 call t1 t4 t7 t9 t63 t65 t71 H) (S16_11 call t1 t4 t7 t9 t63 t65 U H)
noncomputable def S16_13 (call : CallFn) (t1 t4 t7 t9 t63 t65 t69 : AV) (H : AHeap) : R :=
  guardA t65 true (ldK .none H t69 fun t70 H =>
  S16_12 call t1 t4 t7 t9 t63 t65 t70 H) (S16_12 call t1 t4 t7 t9 t63 t65 U H)
noncomputable def S16_14 (call : CallFn) (t1 t4 t7 t9 t63 t65 t68 : AV) (H : AHeap) : R :=
  guardA t65 true (pFa 3 t68 H fun t69 H =>
  S16_13 call t1 t4 t7 t9 t63 t65 t69 H) (S16_13 call t1 t4 t7 t9 t63 t65 U H)
noncomputable def S16_15 (call : CallFn) (t1 t4 t7 t9 t63 t65 t67 : AV) (H : AHeap) : R :=
  guardA t65 true (pIa 4 t67 (.int .i64 (.ofNat 0)) H fun t68 H =>
  S16_14 call t1 t4 t7 t9 t63 t65 t68 H) (S16_14 call t1 t4 t7 t9 t63 t65 U H)
noncomputable def S16_16 (call : CallFn) (t1 t4 t7 t9 t63 t65 t66 : AV) (H : AHeap) : R :=
  guardA t65 true (ldK .none H t66 fun t67 H =>
  S16_15 call t1 t4 t7 t9 t63 t65 t67 H) (S16_15 call t1 t4 t7 t9 t63 t65 U H)
noncomputable def S16_17 (call : CallFn) (t1 t4 t7 t8 t9 : AV) (H : AHeap) : R :=
  guardA t8 true (pFa 3 t7 H fun t66 H =>
  S16_16 call t1 t4 t7 t9 t4 t8 t66 H) (S16_16 call t1 t4 t7 t9 t4 t8 U H)
noncomputable def S16_18 (call : CallFn) (t1 t4 : AV) (H : AHeap) : R :=
  ldK (.some 4) H t1 fun t43 H =>
  pC call 33 [t4, t43] H fun _ H =>
  pC call 34 [t4, (.str [102, 117, 110, 99]), (.str [109, 97, 105, 110])] H fun t47 H =>
  pExt t47 0 H fun t48 H =>
  pExt t47 1 H fun t49 H =>
  pNew [(.str []), (.str []), (.int .i64 (.ofNat 0)), .nilsl] H fun t7 H =>
  stK 4 H t7 t48 fun _ H =>
  ldK (.some 4) H t1 fun t50 H =>
  pNew [(.str []), (.str []), (.int .i64 (.ofNat 0)), .nilsl] H fun t9 H =>
  stK 4 H t9 t50 fun _ H =>
  pFa 3 t1 H fun t51 H =>
  ldK .none H t51 fun t52 H =>
  pO (aLen .sl H t52) H fun t53 H =>
  pGtr t53 (.int .i64 (.ofNat 0)) H fun t54 H =>
  onBool t54 (pFa 3 t1 H fun t55 H =>
  ldK .none H t55 fun t56 H =>
  pFa 3 t1 H fun t57 H =>
  ldK .none H t57 fun t58 H =>
  pO (aLen .sl H t58) H fun t59 H =>
  pSub t59 (.int .i64 (.ofNat 1)) H fun t60 H =>
  pIa 4 t56 t60 H fun t61 H =>
  ldK (.some 4) H t61 fun t62 H =>
  stK 4 H t9 t62 fun _ H =>
  S16_17 call t1 t4 t7 t49 t9 H) (S16_17 call t1 t4 t7 t49 t9 H)
noncomputable def S16_20 (_ : CallFn) (q1 : AV → AV → AV → AV → AV → AHeap → R) (t1 t4 t28 t29 t30 : AV) (H : AHeap) : R :=
  pAdd t30 (.int .i64 (.ofNat 1)) H fun t41 H =>
  q1 t1 t4 t28 t29 t41 H
noncomputable def S16_19 (call : CallFn) (n : Nat) : AV → AV → AV → AV → AV → AHeap → R :=
  Nat.rec (motive := fun _ => AV → AV → AV → AV → AV → AHeap → R) (fun _ _ _ _ _ _ => none) (fun _ q1 t1 t4 t28 t29 t30 H => pLss t30 t29 H fun t31 H =>
  onBool t31 (pIa 4 t28 t30 H fun t32 H =>
  ldK (.some 4) H t32 fun t33 H =>
  pNew [(.str []), (.str []), (.int .i64 (.ofNat 0)), .nilsl] H fun t6 H =>
  stK 4 H t6 t33 fun _ H =>
  pFa 0 t6 H fun t34 H =>
  ldK .none H t34 fun t35 H =>
  pEql t35 (.str [115, 116, 114, 117, 99, 116]) H fun t36 H =>
  onBool t36 (pFa 3 t6 H fun t38 H =>
  ldK .none H t38 fun t39 H =>
  pC call 32 [t4, t39] H fun _ H =>
  S16_20 call q1 t1 t4 t28 t29 t30 H) (S16_20 call q1 t1 t4 t28 t29 t30 H)) (S16_18 call t1 t4 H)) n
noncomputable def S16_21 (call : CallFn) (t1 t15 t18 : AV) (H : AHeap) : R :=
  pPick t15 (.bool true) t18 H fun t19 H =>
  onBool t19 (some (.tup [(.int .i64 (.ofNat 0)), (.int .i64 (.ofNat 7))], H)) (ldK (.some 4) H t1 fun t20 H =>
  pO (someAgg (aFill [(.str []), (.str []), (.int .i64 (.ofNat 0)), .nilsl, (.bool false), (.int .i64 (.ofNat 0)), .nilsl, (.int .i64 (.ofNat 0)), (.str []), (.str []), (.int .i64 (.ofNat 0)), .nilsl] [(0, 4, t20)])) H fun t21 H =>
  pBox t21 H fun t22 H =>
  pFa 3 t1 H fun t24 H =>
  ldK .none H t24 fun t25 H =>
  pC call 32 [t22, t25] H fun _ H =>
  pFa 3 t1 H fun t27 H =>
  ldK .none H t27 fun t28 H =>
  pO (aLen .sl H t28) H fun t29 H =>
  S16_19 call 1000000 t1 t22 t28 t29 (.int .i64 (.ofNat 0)) H)
noncomputable def S16_22 (call : CallFn) (t0 : AV) (H : AHeap) : R :=
  pBox t0 H fun t1 H =>
  pFa 0 t1 H fun t12 H =>
  ldK .none H t12 fun t13 H =>
  pNeq t13 (.str [112, 114, 111, 103, 114, 97, 109]) H fun t14 H =>
  guardA t14 false (ldK (.some 4) H t1 fun t16 H =>
  pC call 31 [t16] H fun t17 H =>
  pO (aUn .not t17) H fun t18 H =>
  S16_21 call t1 t14 t18 H) (S16_21 call t1 t14 U H)
noncomputable def S16 : Ff := ⟨fun call l H => argA1 (fun t0 => S16_22 call t0 H) l⟩
/- gantline/lower.Lower -/
noncomputable def S17_0 (_ : CallFn) (t2 t6 t92 t99 : AV) (H : AHeap) : R :=
  pPick t92 (.bool true) t99 H fun t100 H =>
  onBool t100 (pO (someAgg (aFill [.nilsl, .nilsl, .nilsl, .nilsl, .nilsl, (.int .i64 (.ofNat 0))] [])) H fun t101 H =>
  stK 6 H t2 t101 fun _ H =>
  ob (allM (fun o => o) [aLoad (.some 6) H t2, some (.int .i64 (.ofNat 2))]) fun vs => some (resV vs, H)) (pO (aNil t6) H fun t103 H =>
  pFa 4 t103 H fun t104 H =>
  ldK (.some 6) H t104 fun t105 H =>
  stK 6 H t2 t105 fun _ H =>
  ob (allM (fun o => o) [aLoad (.some 6) H t2, some (.int .i64 (.ofNat 0))]) fun vs => some (resV vs, H))
noncomputable def S17_1 (call : CallFn) (t2 t6 t83 t90 : AV) (H : AHeap) : R :=
  pPick t83 (.bool true) t90 H fun t91 H =>
  guardA t91 false (pO (aNil t6) H fun t94 H =>
  pFa 4 t94 H fun t95 H =>
  pFa 3 t95 H fun t96 H =>
  ldK .none H t96 fun t97 H =>
  pO (aLen .sl H t97) H fun t98 H =>
  pGtr t98 (.int .i64 (.ofNat 1024)) H fun t99 H =>
  S17_0 call t2 t6 t91 t99 H) (S17_0 call t2 t6 t91 U H)
noncomputable def S17_2 (call : CallFn) (t2 t6 t74 t81 : AV) (H : AHeap) : R :=
  pPick t74 (.bool true) t81 H fun t82 H =>
  guardA t82 false (pO (aNil t6) H fun t85 H =>
  pFa 4 t85 H fun t86 H =>
  pFa 0 t86 H fun t87 H =>
  ldK .none H t87 fun t88 H =>
  pO (aLen .sl H t88) H fun t89 H =>
  pGtr t89 (.int .i64 (.ofNat 1024)) H fun t90 H =>
  S17_1 call t2 t6 t82 t90 H) (S17_1 call t2 t6 t82 U H)
noncomputable def S17_3 (call : CallFn) (t2 t6 t65 t72 : AV) (H : AHeap) : R :=
  pPick t65 (.bool true) t72 H fun t73 H =>
  guardA t73 false (pO (aNil t6) H fun t76 H =>
  pFa 4 t76 H fun t77 H =>
  pFa 2 t77 H fun t78 H =>
  ldK .none H t78 fun t79 H =>
  pO (aLen .sl H t79) H fun t80 H =>
  pGtr t80 (.int .i64 (.ofNat 4096)) H fun t81 H =>
  S17_2 call t2 t6 t73 t81 H) (S17_2 call t2 t6 t73 U H)
noncomputable def S17_4 (call : CallFn) (t2 t6 t56 t63 : AV) (H : AHeap) : R :=
  pPick t56 (.bool true) t63 H fun t64 H =>
  guardA t64 false (pO (aNil t6) H fun t67 H =>
  pFa 4 t67 H fun t68 H =>
  pFa 1 t68 H fun t69 H =>
  ldK .none H t69 fun t70 H =>
  pO (aLen .sl H t70) H fun t71 H =>
  pGtr t71 (.int .i64 (.ofNat 256)) H fun t72 H =>
  S17_3 call t2 t6 t64 t72 H) (S17_3 call t2 t6 t64 U H)
noncomputable def S17_5 (call : CallFn) (t2 t6 : AV) (H : AHeap) : R :=
  pO (aNil t6) H fun t53 H =>
  pFa 10 t53 H fun t54 H =>
  ldK .none H t54 fun t55 H =>
  guardA t55 false (pO (aNil t6) H fun t58 H =>
  pFa 4 t58 H fun t59 H =>
  pFa 4 t59 H fun t60 H =>
  ldK .none H t60 fun t61 H =>
  pO (aLen .sl H t61) H fun t62 H =>
  pGtr t62 (.int .i64 (.ofNat 128)) H fun t63 H =>
  S17_4 call t2 t6 t55 t63 H) (S17_4 call t2 t6 t55 U H)
noncomputable def S17_7 (call : CallFn) (q0 : AV → AV → AV → AV → AV → AHeap → R) (t2 t6 t8 t9 t32 t33 t34 : AV) (H : AHeap) : R :=
  ldK (.some 4) H t9 fun t49 H =>
  pC call 39 [t6, t8, t49, .nilsl] H fun _ H =>
  pAdd t34 (.int .i64 (.ofNat 1)) H fun t51 H =>
  q0 t2 t6 t32 t33 t51 H
noncomputable def S17_6 (call : CallFn) (n : Nat) : AV → AV → AV → AV → AV → AHeap → R :=
  Nat.rec (motive := fun _ => AV → AV → AV → AV → AV → AHeap → R) (fun _ _ _ _ _ _ => none) (fun _ q0 t2 t6 t32 t33 t34 H => pLss t34 t33 H fun t35 H =>
  onBool t35 (pIa 4 t32 t34 H fun t37 H =>
  ldK (.some 4) H t37 fun t38 H =>
  pNew [(.str []), (.str []), (.int .i64 (.ofNat 0)), .nilsl] H fun t9 H =>
  stK 4 H t9 t38 fun _ H =>
  pFa 1 t9 H fun t39 H =>
  ldK .none H t39 fun t40 H =>
  pEql t40 (.str [109, 97, 105, 110]) H fun t41 H =>
  onBool t41 (pO (aNil t6) H fun t44 H =>
  pFa 4 t44 H fun t45 H =>
  pFa 5 t45 H fun t46 H =>
  stK 1 H t46 t34 fun _ H =>
  S17_7 call q0 t2 t6 t34 t9 t32 t33 t34 H) (S17_7 call q0 t2 t6 t34 t9 t32 t33 t34 H)) (S17_5 call t2 t6 H)) n
noncomputable def S17_8 (call : CallFn) (t0 : AV) (H : AHeap) : R :=
  pBox t0 H fun t1 H =>
  pNew [.nilsl, .nilsl, .nilsl, .nilsl, .nilsl, (.int .i64 (.ofNat 0))] H fun t2 H =>
  ldK (.some 4) H t1 fun t11 H =>
  pC call 16 [t11] H fun t12 H =>
  pExt t12 0 H fun _ H =>
  pExt t12 1 H fun t14 H =>
  pNeq t14 (.int .i64 (.ofNat 0)) H fun t16 H =>
  onBool t16 (pO (someAgg (aFill [.nilsl, .nilsl, .nilsl, .nilsl, .nilsl, (.int .i64 (.ofNat 0))] [])) H fun t17 H =>
  stK 6 H t2 t17 fun _ H =>
  ob (allM (fun o => o) [aLoad (.some 6) H t2, some (.int .i64 (.ofNat 7))]) fun vs => some (resV vs, H)) (ldK (.some 4) H t1 fun t18 H =>
  pO (someAgg (aFill [(.str []), (.str []), (.int .i64 (.ofNat 0)), .nilsl, .nilsl, .nilsl, .nilsl, .nilsl, .nilsl, (.int .i64 (.ofNat 0)), (.bool false)] [(0, 4, t18)])) H fun t19 H =>
  pBox t19 H fun t20 H =>
  pC call 37 [t20] H fun _ H =>
  pC call 38 [t20, (.str [102, 117, 110, 99])] H fun t24 H =>
  pO (aLen .sl H t24) H fun t27 H =>
  pN (aMksl 7 104 [(.int .i64 (.ofNat 0)), (.int .i64 (.ofNat 0)), (.int .i64 (.ofNat 0)), (.int .i64 (.ofNat 0)), .nilsl, .nilsl, .nilsl] t27 t27) H fun t28 H =>
  pO (aNil t20) H fun t29 H =>
  pFa 4 t29 H fun t30 H =>
  pFa 4 t30 H fun t31 H =>
  stK 1 H t31 t28 fun _ H =>
  pO (aLen .sl H t24) H fun t33 H =>
  S17_6 call 1000000 t2 t20 t24 t33 (.int .i64 (.ofNat 0)) H)
noncomputable def S17 : Ff := ⟨fun call l H => argA1 (fun t0 => S17_8 call t0 H) l⟩
/- gantline/emit.Emit -/
noncomputable def S18_0 (call : CallFn) (t0 : AV) (H : AHeap) : R :=
  pBox t0 H fun t1 H =>
  pNew [.nilsl, .nilsl, .nilsl, .nilsl, .nilsl, (.int .i64 (.ofNat 0))] H fun t2 H =>
  ldK (.some 6) H t1 fun t4 H =>
  pC call 40 [t4] H fun t5 H =>
  pO (aUn .not t5) H fun t6 H =>
  onBool t6 (pO (someAgg (aFill [.nilsl, .nilsl, .nilsl, .nilsl, .nilsl, (.int .i64 (.ofNat 0))] [])) H fun t7 H =>
  stK 6 H t2 t7 fun _ H =>
  ob (allM (fun o => o) [aLoad (.some 6) H t2, some (.int .i64 (.ofNat 8))]) fun vs => some (resV vs, H)) (ldK (.some 6) H t1 fun t8 H =>
  pC call 41 [t8] H fun t9 H =>
  stK 6 H t1 t9 fun _ H =>
  pFa 4 t1 H fun t10 H =>
  ldK .none H t10 fun t11 H =>
  pC call 42 [t11, (.fn 43 [] [])] H fun t12 H =>
  onBool t12 (pO (someAgg (aFill [.nilsl, .nilsl, .nilsl, .nilsl, .nilsl, (.int .i64 (.ofNat 0))] [])) H fun t13 H =>
  stK 6 H t2 t13 fun _ H =>
  ob (allM (fun o => o) [aLoad (.some 6) H t2, some (.int .i64 (.ofNat 2))]) fun vs => some (resV vs, H)) (ldK (.some 6) H t1 fun t14 H =>
  pC call 45 [t14] H fun t15 H =>
  pC call 44 [t15] H fun t16 H =>
  stK 6 H t2 t16 fun _ H =>
  ob (allM (fun o => o) [aLoad (.some 6) H t2, some (.int .i64 (.ofNat 0))]) fun vs => some (resV vs, H)))
noncomputable def S18 : Ff := ⟨fun call l H => argA1 (fun t0 => S18_0 call t0 H) l⟩
/- internal/strconv.Itoa -/
noncomputable def S20_0 (call : CallFn) (t0 : AV) (H : AHeap) : R :=
  pC call 47 [t0, (.int .i64 (.ofNat 10))] H fun t4 H =>
  some (t4, H)
noncomputable def S20 : Ff := ⟨fun call l H => argA1 (fun t0 => S20_0 call t0 H) l⟩
/- gantline/run.Run -/
noncomputable def S21_0 (call : CallFn) (t6 t8 t10 : AV) (H : AHeap) : R :=
  pC call 50 [t8, t10] H fun t38 H =>
  stK 7 H t6 t38 fun _ H =>
  ob (allM (fun o => o) [aLoad (.some 7) H t6, some (.int .i64 (.ofNat 0))]) fun vs => some (resV vs, H)
noncomputable def S21_1 (call : CallFn) (n : Nat) : AV → AV → AV → AV → AV → AV → AHeap → R :=
  Nat.rec (motive := fun _ => AV → AV → AV → AV → AV → AV → AHeap → R) (fun _ _ _ _ _ _ _ => none) (fun _ q0 t6 t8 t10 t23 t24 t25 H => pLss t25 t24 H fun t26 H =>
  onBool t26 (pIa 1 t23 t25 H fun t27 H =>
  ldK .none H t27 fun t28 H =>
  pC call 49 [t8, t28] H fun t31 H =>
  pO (aUn .not t31) H fun t32 H =>
  onBool t32 (S21_0 call t6 t8 t10 H) (pAdd t10 (.int .i64 (.ofNat 1)) H fun t34 H =>
  pAdd t25 (.int .i64 (.ofNat 1)) H fun t35 H =>
  q0 t6 t8 t34 t23 t24 t35 H)) (S21_0 call t6 t8 t10 H)) n
noncomputable def S21_2 (call : CallFn) (t0 t1 t2 : AV) (H : AHeap) : R :=
  pBox t0 H fun t3 H =>
  pNew [.nilsl, (.int .i64 (.ofNat 0)), (.int .i64 (.ofNat 0)), (.int .i64 (.ofNat 0)), (.int .i64 (.ofNat 0)), (.int .i64 (.ofNat 0)), .nilsl] H fun t6 H =>
  ldK (.some 6) H t3 fun t14 H =>
  pC call 48 [t14, t1] H fun t16 H =>
  pExt t16 0 H fun t17 H =>
  pExt t16 1 H fun t18 H =>
  pNeq t18 (.int .i64 (.ofNat 0)) H fun t20 H =>
  onBool t20 (pO (someAgg (aFill [.nilsl, (.int .i64 (.ofNat 0)), (.int .i64 (.ofNat 0)), (.int .i64 (.ofNat 0)), (.int .i64 (.ofNat 0)), (.int .i64 (.ofNat 0)), .nilsl] [])) H fun t21 H =>
  stK 7 H t6 t21 fun _ H =>
  ob (allM (fun o => o) [aLoad (.some 7) H t6, some t18]) fun vs => some (resV vs, H)) (pO (aLen .sl H t2) H fun t24 H =>
  S21_1 call 1000000 t6 t17 (.int .i64 (.ofNat 0)) t2 t24 (.int .i64 (.ofNat 0)) H)
noncomputable def S21 : Ff := ⟨fun call l H => argA3 (fun t0 t1 t2 => S21_2 call t0 t1 t2 H) l⟩
/- gantline/script.told -/
noncomputable def S22_0 (call : CallFn) (t2 t3 t4 t9 : AV) (H : AHeap) : R :=
  pAdd t9 (.str [32, 101, 110, 100, 32]) H fun t31 H =>
  pFa 1 t4 H fun t32 H =>
  ldK .none H t32 fun t33 H =>
  pFa 2 t4 H fun t37 H =>
  ldK .none H t37 fun t38 H =>
  pC call 9 [t33] H fun t34 H =>
  andR (andB (ckV (aLoad .none H t37) t38) true) (
  pAdd t31 t34 H fun t35 H =>
  pAdd t35 (.str [32]) H fun t36 H =>
  pC call 9 [t38] H fun t39 H =>
  pAdd t36 t39 H fun t40 H =>
  pAdd t40 (.str [32]) H fun t41 H =>
  pAdd t41 t2 H fun t43 H =>
  pAdd t43 (.str [32]) H fun t44 H =>
  pC call 9 [t3] H fun t46 H =>
  pAdd t44 t46 H fun t47 H =>
  some (t47, H))
noncomputable def S22_1 (call : CallFn) (n : Nat) : AV → AV → AV → AV → AV → AV → AV → AHeap → R :=
  Nat.rec (motive := fun _ => AV → AV → AV → AV → AV → AV → AV → AHeap → R) (fun _ _ _ _ _ _ _ _ => none) (fun _ q0 t2 t3 t4 t9 t18 t19 t20 H => pLss t20 t19 H fun t21 H =>
  onBool t21 (pIa 1 t18 t20 H fun t22 H =>
  ldK .none H t22 fun t23 H =>
  pC call 51 [t23, (.int .i64 (.ofNat 10))] H fun t26 H =>
  pAdd (.str [32]) t26 H fun t27 H =>
  pAdd t9 t27 H fun t28 H =>
  pAdd t20 (.int .i64 (.ofNat 1)) H fun t29 H =>
  q0 t2 t3 t4 t28 t18 t19 t29 H) (S22_0 call t2 t3 t4 t9 H)) n
noncomputable def S22_2 (call : CallFn) (t0 t1 t2 t3 : AV) (H : AHeap) : R :=
  pBox t0 H fun t4 H =>
  pNeq t1 (.int .i64 (.ofNat 0)) H fun t13 H =>
  onBool t13 (pC call 9 [t1] H fun t15 H =>
  pAdd (.str [101, 114, 114, 111, 114, 32]) t15 H fun t16 H =>
  some (t16, H)) (pFa 0 t4 H fun t17 H =>
  ldK .none H t17 fun t18 H =>
  pO (aLen .sl H t18) H fun t19 H =>
  S22_1 call 1000000 t2 t3 t4 (.str [111, 117, 116]) t18 t19 (.int .i64 (.ofNat 0)) H)
noncomputable def S22 : Ff := ⟨fun call l H => argA4 (fun t0 t1 t2 t3 => S22_2 call t0 t1 t2 t3 H) l⟩
/- gantline/run.Follow -/
noncomputable def S23_0 (call : CallFn) (t8 t11 t13 t14 : AV) (H : AHeap) : R :=
  pO (aNil t13) H fun t64 H =>
  pFa 2 t64 H fun t65 H =>
  ldK .none H t65 fun t66 H =>
  pC call 50 [t11, t66] H fun t67 H =>
  stK 7 H t8 t67 fun _ H =>
  ob (allM (fun o => o) [aLoad (.some 7) H t8, some t14, some (.int .i64 (.ofNat 0))]) fun vs => some (resV vs, H)
noncomputable def S23_2 (_ : CallFn) (q0 : AV → AV → AV → AV → AV → AV → AV → AHeap → R) (t8 t11 t13 t14 t38 t39 t40 : AV) (H : AHeap) : R :=
  pAdd t40 (.int .i64 (.ofNat 1)) H fun t61 H =>
  q0 t8 t11 t13 t14 t38 t39 t61 H
noncomputable def S23_3 (call : CallFn) (q0 : AV → AV → AV → AV → AV → AV → AV → AHeap → R) (t8 t11 t13 t14 t16 t38 t39 t40 t46 t51 : AV) (H : AHeap) : R :=
  pPick t46 (.bool true) t51 H fun t52 H =>
  onBool t52 (S23_0 call t8 t11 t13 t14 H) (pO (aBin .rem t16 (.int .i64 (.ofNat 1000))) H fun t55 H =>
  pO (aBin .quo t16 (.int .i64 (.ofNat 1000))) H fun t57 H =>
  pC call 53 [t13, t55, t57] H fun t58 H =>
  onBool t58 (pAdd t14 (.int .i64 (.ofNat 1)) H fun t60 H =>
  S23_2 call q0 t8 t11 t13 t60 t38 t39 t40 H) (S23_2 call q0 t8 t11 t13 t14 t38 t39 t40 H))
noncomputable def S23_1 (call : CallFn) (n : Nat) : AV → AV → AV → AV → AV → AV → AV → AHeap → R :=
  Nat.rec (motive := fun _ => AV → AV → AV → AV → AV → AV → AV → AHeap → R) (fun _ _ _ _ _ _ _ _ => none) (fun _ q0 t8 t11 t13 t14 t38 t39 t40 H => pLss t40 t39 H fun t41 H =>
  onBool t41 (pIa 1 t38 t40 H fun t42 H =>
  ldK .none H t42 fun t43 H =>
  pLss t43 (.int .i64 (.ofNat 0)) H fun t45 H =>
  guardA t45 false (pO (aBin .rem t43 (.int .i64 (.ofNat 1000))) H fun t49 H =>
  pC call 52 [t13, t49] H fun t50 H =>
  pO (aUn .not t50) H fun t51 H =>
  S23_3 call q0 t8 t11 t13 t14 t43 t38 t39 t40 t45 t51 H) (S23_3 call q0 t8 t11 t13 t14 t43 t38 t39 t40 t45 U H)) (S23_0 call t8 t11 t13 t14 H)) n
noncomputable def S23_4 (call : CallFn) (t1 t2 t3 t4 t8 t19 t21 : AV) (H : AHeap) : R :=
  pPick t19 (.bool true) t21 H fun t22 H =>
  onBool t22 (pO (someAgg (aFill [.nilsl, (.int .i64 (.ofNat 0)), (.int .i64 (.ofNat 0)), (.int .i64 (.ofNat 0)), (.int .i64 (.ofNat 0)), (.int .i64 (.ofNat 0)), .nilsl] [])) H fun t23 H =>
  stK 7 H t8 t23 fun _ H =>
  ob (allM (fun o => o) [aLoad (.some 7) H t8, some (.int .i64 (.ofNat 0)), some (.int .i64 (.ofNat 1))]) fun vs => some (resV vs, H)) (ldK (.some 6) H t4 fun t25 H =>
  pC call 48 [t25, t1] H fun t27 H =>
  pExt t27 0 H fun t28 H =>
  pExt t27 1 H fun t29 H =>
  pNeq t29 (.int .i64 (.ofNat 0)) H fun t31 H =>
  onBool t31 (pO (someAgg (aFill [.nilsl, (.int .i64 (.ofNat 0)), (.int .i64 (.ofNat 0)), (.int .i64 (.ofNat 0)), (.int .i64 (.ofNat 0)), (.int .i64 (.ofNat 0)), .nilsl] [])) H fun t32 H =>
  stK 7 H t8 t32 fun _ H =>
  ob (allM (fun o => o) [aLoad (.some 7) H t8, some (.int .i64 (.ofNat 0)), some t29]) fun vs => some (resV vs, H)) (pO (someAgg (aFill [.nilp, (.int .i64 (.ofNat 0)), (.int .i64 (.ofNat 0))] [(0, 1, t28), (1, 1, t3)])) H fun t36 H =>
  pBox t36 H fun t37 H =>
  pO (aLen .sl H t2) H fun t39 H =>
  S23_1 call 1000000 t8 t28 t37 (.int .i64 (.ofNat 0)) t2 t39 (.int .i64 (.ofNat 0)) H))
noncomputable def S23_5 (call : CallFn) (t0 t1 t2 t3 : AV) (H : AHeap) : R :=
  pBox t0 H fun t4 H =>
  pNew [.nilsl, (.int .i64 (.ofNat 0)), (.int .i64 (.ofNat 0)), (.int .i64 (.ofNat 0)), (.int .i64 (.ofNat 0)), (.int .i64 (.ofNat 0)), .nilsl] H fun t8 H =>
  pLss t3 (.int .i64 (.ofNat 0)) H fun t18 H =>
  guardA t18 false (pGtr t3 (.int .i64 (.ofNat 9)) H fun t21 H =>
  S23_4 call t1 t2 t3 t4 t8 t18 t21 H) (S23_4 call t1 t2 t3 t4 t8 t18 U H)
noncomputable def S23 : Ff := ⟨fun call l H => argA4 (fun t0 t1 t2 t3 => S23_5 call t0 t1 t2 t3 H) l⟩
/- strings.genSplit -/
noncomputable def S26_0 (_ : CallFn) (t0 t9 t10 : AV) (H : AHeap) : R :=
  pIa 1 t9 t10 H fun t61 H =>
  stK 1 H t61 t0 fun _ H =>
  pAdd t10 (.int .i64 (.ofNat 1)) H fun t64 H =>
  pO (aSlice 1 H t9 .none (.some t64) .none) H fun t65 H =>
  some (t65, H)
noncomputable def S26_1 (call : CallFn) (n : Nat) : AV → AV → AV → AV → AV → AV → AHeap → R :=
  Nat.rec (motive := fun _ => AV → AV → AV → AV → AV → AV → AHeap → R) (fun _ _ _ _ _ _ _ => none) (fun _ q0 t0 t1 t2 t3 t9 t10 H => pLss t10 t3 H fun t36 H =>
  onBool t36 (pC call 56 [t0, t1] H fun t39 H =>
  pLss t39 (.int .i64 (.ofNat 0)) H fun t41 H =>
  onBool t41 (S26_0 call t0 t9 t10 H) (pAdd t39 t2 H fun t47 H =>
  pO (aSliceS t0 .none (.some t47)) H fun t48 H =>
  pIa 1 t9 t10 H fun t49 H =>
  stK 1 H t49 t48 fun _ H =>
  pO (aLen .str H t1) H fun t53 H =>
  pAdd t39 t53 H fun t54 H =>
  pO (aSliceS t0 (.some t54) .none) H fun t55 H =>
  pAdd t10 (.int .i64 (.ofNat 1)) H fun t57 H =>
  q0 t55 t1 t2 t3 t9 t57 H)) (S26_0 call t0 t9 t10 H)) n
noncomputable def S26_2 (call : CallFn) (t0 t1 t2 t3 : AV) (H : AHeap) : R :=
  pO (aLen .str H t0) H fun t27 H =>
  pAdd t27 (.int .i64 (.ofNat 1)) H fun t28 H =>
  pO (aMinMax false t3 t28) H fun t29 H =>
  pN (aMksl 1 16 [(.str [])] t29 t29) H fun t31 H =>
  pSub t29 (.int .i64 (.ofNat 1)) H fun t33 H =>
  S26_1 call 1000000 t0 t1 t2 t33 t31 (.int .i64 (.ofNat 0)) H
noncomputable def S26_3 (call : CallFn) (t0 t1 t2 t3 : AV) (H : AHeap) : R :=
  pEql t3 (.int .i64 (.ofNat 0)) H fun t13 H =>
  onBool t13 (some (.nilsl, H)) (pEql t1 (.str []) H fun t15 H =>
  onBool t15 (pC call 54 [t0, t3] H fun t18 H =>
  some (t18, H)) (pLss t3 (.int .i64 (.ofNat 0)) H fun t20 H =>
  onBool t20 (pC call 55 [t0, t1] H fun t23 H =>
  pAdd t23 (.int .i64 (.ofNat 1)) H fun t24 H =>
  S26_2 call t0 t1 t2 t24 H) (S26_2 call t0 t1 t2 t3 H)))
noncomputable def S26 : Ff := ⟨fun call l H => argA4 (fun t0 t1 t2 t3 => S26_3 call t0 t1 t2 t3 H) l⟩
/- gantline/script.num -/
noncomputable def S27_0 (_ : CallFn) (t11 t20 t24 : AV) (H : AHeap) : R :=
  pPick t20 t24 (.bool false) H fun t25 H =>
  some (.tup [t11, t25], H)
noncomputable def S27_1 (call : CallFn) (t0 t11 t14 t18 : AV) (H : AHeap) : R :=
  pPick t14 t18 (.bool false) H fun t19 H =>
  guardA t19 true (pC call 58 [t0, (.str [45])] H fun t22 H =>
  pO (aLen .str H t22) H fun t23 H =>
  pLeq t23 (.int .i64 (.ofNat 9)) H fun t24 H =>
  S27_0 call t11 t19 t24 H) (S27_0 call t11 t19 U H)
noncomputable def S27_2 (call : CallFn) (t0 : AV) (H : AHeap) : R :=
  pC call 57 [t0] H fun t8 H =>
  pExt t8 0 H fun t9 H =>
  pExt t8 1 H fun t10 H =>
  pO (aEq false .ifc t10 .nilif) H fun t13 H =>
  guardA t13 true (pC call 9 [t9] H fun t16 H =>
  pEql t16 t0 H fun t18 H =>
  S27_1 call t0 t9 t13 t18 H) (S27_1 call t0 t9 t13 U H)
noncomputable def S27 : Ff := ⟨fun call l H => argA1 (fun t0 => S27_2 call t0 H) l⟩
/- (gantline/script.line).form -/
noncomputable def S28_0 (_ : CallFn) (t37 t42 : AV) (H : AHeap) : R :=
  pPick t37 t42 (.bool false) H fun t43 H =>
  some (t43, H)
noncomputable def S28_1 (call : CallFn) (t1 t30 t35 : AV) (H : AHeap) : R :=
  pPick t30 t35 (.bool false) H fun t36 H =>
  guardA t36 true (pFa 1 t1 H fun t38 H =>
  ldK .none H t38 fun t39 H =>
  pIa 1 t39 (.int .i64 (.ofNat 2)) H fun t40 H =>
  ldK .none H t40 fun t41 H =>
  pGeq t41 (.int .i64 (.ofNat 0)) H fun t42 H =>
  S28_0 call t36 t42 H) (S28_0 call t36 U H)
noncomputable def S28_2 (call : CallFn) (t1 t23 t28 : AV) (H : AHeap) : R :=
  pPick t23 t28 (.bool false) H fun t29 H =>
  guardA t29 true (pFa 1 t1 H fun t31 H =>
  ldK .none H t31 fun t32 H =>
  pIa 1 t32 (.int .i64 (.ofNat 1)) H fun t33 H =>
  ldK .none H t33 fun t34 H =>
  pLeq t34 (.int .i64 (.ofNat 20000)) H fun t35 H =>
  S28_1 call t1 t29 t35 H) (S28_1 call t1 t29 U H)
noncomputable def S28_3 (call : CallFn) (t0 : AV) (H : AHeap) : R :=
  pBox t0 H fun t1 H =>
  pFa 0 t1 H fun t3 H =>
  ldK .none H t3 fun t4 H =>
  pEql t4 (.str [114, 117, 110]) H fun t6 H =>
  onBool t6 (pFa 1 t1 H fun t7 H =>
  ldK .none H t7 fun t8 H =>
  pO (aLen .sl H t8) H fun t9 H =>
  pGeq t9 (.int .i64 (.ofNat 1)) H fun t10 H =>
  some (t10, H)) (pEql t4 (.str [102, 111, 108, 108, 111, 119]) H fun t12 H =>
  onBool t12 (pFa 1 t1 H fun t13 H =>
  ldK .none H t13 fun t14 H =>
  pO (aLen .sl H t14) H fun t15 H =>
  pGeq t15 (.int .i64 (.ofNat 2)) H fun t16 H =>
  some (t16, H)) (pEql t4 (.str [115, 101, 101, 100]) H fun t18 H =>
  onBool t18 (pFa 1 t1 H fun t19 H =>
  ldK .none H t19 fun t20 H =>
  pO (aLen .sl H t20) H fun t21 H =>
  pEql t21 (.int .i64 (.ofNat 3)) H fun t22 H =>
  guardA t22 true (pFa 1 t1 H fun t24 H =>
  ldK .none H t24 fun t25 H =>
  pIa 1 t25 (.int .i64 (.ofNat 1)) H fun t26 H =>
  ldK .none H t26 fun t27 H =>
  pGeq t27 (.int .i64 (.ofNat 0)) H fun t28 H =>
  S28_2 call t1 t22 t28 H) (S28_2 call t1 t22 U H)) (pEql t4 (.str [99, 111, 100, 101]) H fun t45 H =>
  onBool t45 (pFa 1 t1 H fun t46 H =>
  ldK .none H t46 fun t47 H =>
  pO (aLen .sl H t47) H fun t48 H =>
  pEql t48 (.int .i64 (.ofNat 0)) H fun t49 H =>
  some (t49, H)) (some ((.bool false), H)))))
noncomputable def S28 : Ff := ⟨fun call l H => argA1 (fun t0 => S28_3 call t0 H) l⟩
/- gantline/lex.Cut -/
noncomputable def S29_0 (_ : CallFn) (t0 t5 : AV) (H : AHeap) : R :=
  pO (aLen .str H t0) H fun t44 H =>
  pO (someAgg (aFill [(.int .i64 (.ofNat 0)), (.str []), (.int .i64 (.ofNat 0))] [(2, 1, t44)])) H fun t45 H =>
  pN (aBsl 3 1 [(.int .i64 (.ofNat 0)), (.str []), (.int .i64 (.ofNat 0))] [(0, 3, t45)]) H fun t46 H =>
  pW (aApp 3 32 H t5 t46) fun t47 H =>
  some (.tup [t47, (.int .i64 (.ofNat 0)), (.int .i64 (.ofNat 0))], H)
noncomputable def S29_1 (call : CallFn) (n : Nat) : AV → AV → AV → AHeap → R :=
  Nat.rec (motive := fun _ => AV → AV → AV → AHeap → R) (fun _ _ _ _ => none) (fun _ q0 t0 t5 t6 H => pO (aLen .str H t0) H fun t15 H =>
  pLss t6 t15 H fun t16 H =>
  onBool t16 (pO (aSliceS t0 (.some t6) .none) H fun t25 H =>
  pC call 60 [t25] H fun t26 H =>
  pNew [(.int .i64 (.ofNat 0)), (.str []), (.int .i64 (.ofNat 0))] H fun t7 H =>
  stK 3 H t7 t26 fun _ H =>
  pFa 0 t7 H fun t27 H =>
  ldK .none H t27 fun t28 H =>
  pEql t28 (.int .i64 (.ofNat 0)) H fun t29 H =>
  onBool t29 (some (.tup [.nilsl, t6, (.int .i64 (.ofNat 6))], H)) (pFa 2 t7 H fun t32 H =>
  stK 1 H t32 t6 fun _ H =>
  ldK (.some 3) H t7 fun t34 H =>
  pN (aBsl 3 1 [(.int .i64 (.ofNat 0)), (.str []), (.int .i64 (.ofNat 0))] [(0, 3, t34)]) H fun t35 H =>
  pW (aApp 3 32 H t5 t35) fun t36 H =>
  pFa 1 t7 H fun t38 H =>
  ldK .none H t38 fun t39 H =>
  pO (aLen .str H t39) H fun t40 H =>
  pAdd t6 t40 H fun t41 H =>
  pO (aSliceS t0 (.some t41) .none) H fun t20 H =>
  pC call 59 [t20] H fun t21 H =>
  pAdd t41 t21 H fun t22 H =>
  q0 t0 t36 t22 H)) (S29_0 call t0 t5 H)) n
noncomputable def S29_2 (call : CallFn) (t0 : AV) (H : AHeap) : R :=
  pO (aLen .str H t0) H fun t9 H =>
  pGtr t9 (.int .i64 (.ofNat 16384)) H fun t10 H =>
  onBool t10 (some (.tup [.nilsl, (.int .i64 (.ofNat 0)), (.int .i64 (.ofNat 2))], H)) (pC call 59 [t0] H fun t12 H =>
  S29_1 call 1000000 t0 .nilsl t12 H)
noncomputable def S29 : Ff := ⟨fun call l H => argA1 (fun t0 => S29_2 call t0 H) l⟩
/- (*gantline/parse.parser).program -/
noncomputable def S30_0 (_ : CallFn) (t2 t3 : AV) (H : AHeap) : R :=
  ldK (.some 4) H t3 fun t24 H =>
  stK 4 H t2 t24 fun _ H =>
  ob (allM (fun o => o) [aLoad (.some 4) H t2]) fun vs => some (resV vs, H)
noncomputable def S30_2 (call : CallFn) (q0 : AV → AV → AV → AHeap → R) (t0 t2 t3 t11 t15 : AV) (H : AHeap) : R :=
  pPick t11 t15 (.bool false) H fun t16 H =>
  onBool t16 (pFa 3 t3 H fun t17 H =>
  ldK .none H t17 fun t18 H =>
  pC call 63 [t0] H fun t20 H =>
  andR (andB (ckV (aLoad .none H t17) t18) true) (
  pN (aBsl 4 1 [(.str []), (.str []), (.int .i64 (.ofNat 0)), .nilsl] [(0, 4, t20)]) H fun t21 H =>
  pW (aApp 4 64 H t18 t21) fun t22 H =>
  pFa 3 t3 H fun t23 H =>
  stK 1 H t23 t22 fun _ H =>
  q0 t0 t2 t3 H)) (S30_0 call t2 t3 H)
noncomputable def S30_1 (call : CallFn) (n : Nat) : AV → AV → AV → AHeap → R :=
  Nat.rec (motive := fun _ => AV → AV → AV → AHeap → R) (fun _ _ _ _ => none) (fun _ q0 t0 t2 t3 H => pO (aNil t0) H fun t7 H =>
  pFa 3 t7 H fun t8 H =>
  ldK .none H t8 fun t9 H =>
  pEql t9 (.int .i64 (.ofNat 0)) H fun t10 H =>
  guardA t10 true (pC call 62 [t0] H fun t13 H =>
  pO (aFld 0 .none t13) H fun t14 H =>
  pNeq t14 (.int .i64 (.ofNat 0)) H fun t15 H =>
  S30_2 call q0 t0 t2 t3 t10 t15 H) (S30_2 call q0 t0 t2 t3 t10 U H)) n
noncomputable def S30_3 (call : CallFn) (t0 : AV) (H : AHeap) : R :=
  pNew [(.str []), (.str []), (.int .i64 (.ofNat 0)), .nilsl] H fun t2 H =>
  pC call 61 [t0, (.str [112, 114, 111, 103, 114, 97, 109])] H fun t5 H =>
  pNew [(.str []), (.str []), (.int .i64 (.ofNat 0)), .nilsl] H fun t3 H =>
  stK 4 H t3 t5 fun _ H =>
  S30_1 call 1000000 t0 t2 t3 H
noncomputable def S30 : Ff := ⟨fun call l H => argA1 (fun t0 => S30_3 call t0 H) l⟩
/- gantline/check.whole -/
noncomputable def S31_0 (_ : CallFn) (t5 t9 : AV) (H : AHeap) : R :=
  pPick t5 t9 (.bool false) H fun t10 H =>
  some (t10, H)
noncomputable def S31_1 (call : CallFn) (t0 : AV) (H : AHeap) : R :=
  pBox t0 H fun t1 H =>
  ldK (.some 4) H t1 fun t3 H =>
  pC call 64 [t3] H fun t4 H =>
  guardA t4 true (pFa 3 t1 H fun t6 H =>
  ldK .none H t6 fun t7 H =>
  pC call 65 [t7, (.fn 66 [] [])] H fun t8 H =>
  pO (aUn .not t8) H fun t9 H =>
  S31_0 call t4 t9 H) (S31_0 call t4 U H)
noncomputable def S31 : Ff := ⟨fun call l H => argA1 (fun t0 => S31_1 call t0 H) l⟩
/- (*gantline/check.checker).once -/
noncomputable def S32_0 (call : CallFn) (n : Nat) : AV → AV → AV → AV → AV → AHeap → R :=
  Nat.rec (motive := fun _ => AV → AV → AV → AV → AV → AHeap → R) (fun _ _ _ _ _ _ => none) (fun _ q0 t0 t4 t8 t9 t10 H => pLss t10 t9 H fun t11 H =>
  onBool t11 (pIa 4 t8 t10 H fun t12 H =>
  ldK (.some 4) H t12 fun t13 H =>
  pNew [(.str []), (.str []), (.int .i64 (.ofNat 0)), .nilsl] H fun t6 H =>
  stK 4 H t6 t13 fun _ H =>
  pFa 1 t6 H fun t16 H =>
  ldK .none H t16 fun t17 H =>
  pO (aLook .str (.bool false) false H t4 t17) H fun t18 H =>
  pO (aUn .not t18) H fun t19 H =>
  ldK (.some 4) H t6 fun t20 H =>
  pC call 35 [t0, t19, t20] H fun _ H =>
  pFa 1 t6 H fun t23 H =>
  ldK .none H t23 fun t24 H =>
  pW (unitW (aMapUp .str H t4 t24 (.bool true))) fun _ H =>
  pAdd t10 (.int .i64 (.ofNat 1)) H fun t25 H =>
  q0 t0 t4 t8 t9 t25 H) (some (.tup [], H))) n
noncomputable def S32_1 (call : CallFn) (t0 t1 : AV) (H : AHeap) : R :=
  pMap H fun t7 H =>
  pO (aLen .sl H t1) H fun t9 H =>
  S32_0 call 1000000 t0 t7 t1 t9 (.int .i64 (.ofNat 0)) H
noncomputable def S32 : Ff := ⟨fun call l H => argA2 (fun t0 t1 => S32_1 call t0 t1 H) l⟩
/- (*gantline/check.checker).named -/
noncomputable def S33_0 (call : CallFn) (n : Nat) : AV → AV → AV → AV → AHeap → R :=
  Nat.rec (motive := fun _ => AV → AV → AV → AV → AHeap → R) (fun _ _ _ _ _ => none) (fun _ q0 t0 t23 t24 t25 H => pLss t25 t24 H fun t26 H =>
  onBool t26 (pIa 4 t23 t25 H fun t27 H =>
  ldK (.some 4) H t27 fun t28 H =>
  pNew [(.str []), (.str []), (.int .i64 (.ofNat 0)), .nilsl] H fun t7 H =>
  stK 4 H t7 t28 fun _ H =>
  ldK (.some 4) H t7 fun t30 H =>
  pC call 33 [t0, t30] H fun _ H =>
  pAdd t25 (.int .i64 (.ofNat 1)) H fun t32 H =>
  q0 t0 t23 t24 t32 H) (some (.tup [], H))) n
noncomputable def S33_1 (call : CallFn) (t0 t3 : AV) (H : AHeap) : R :=
  pFa 3 t3 H fun t22 H =>
  ldK .none H t22 fun t23 H =>
  pO (aLen .sl H t23) H fun t24 H =>
  S33_0 call 1000000 t0 t23 t24 (.int .i64 (.ofNat 0)) H
noncomputable def S33_2 (call : CallFn) (t0 t1 : AV) (H : AHeap) : R :=
  pBox t1 H fun t3 H =>
  pFa 0 t3 H fun t8 H =>
  ldK .none H t8 fun t9 H =>
  pEql t9 (.str [110, 97, 109, 101, 100]) H fun t10 H =>
  onBool t10 (pFa 1 t3 H fun t13 H =>
  ldK .none H t13 fun t14 H =>
  pC call 34 [t0, (.str [115, 116, 114, 117, 99, 116]), t14] H fun t15 H =>
  pExt t15 0 H fun t16 H =>
  pExt t15 1 H fun t17 H =>
  pNew [(.str []), (.str []), (.int .i64 (.ofNat 0)), .nilsl] H fun t4 H =>
  stK 4 H t4 t16 fun _ H =>
  ldK (.some 4) H t3 fun t20 H =>
  pC call 35 [t0, t17, t20] H fun _ H =>
  S33_1 call t0 t3 H) (S33_1 call t0 t3 H)
noncomputable def S33 : Ff := ⟨fun call l H => argA2 (fun t0 t1 => S33_2 call t0 t1 H) l⟩
/- (*gantline/check.checker).decl -/
noncomputable def S34_0 (call : CallFn) (t0 t1 t2 : AV) (H : AHeap) : R :=
  pBox t1 H fun t4 H =>
  pBox t2 H fun t5 H =>
  pNew [(.str []), (.str []), (.int .i64 (.ofNat 0)), .nilsl] H fun t6 H =>
  pO (aNil t0) H fun t10 H =>
  pFa 0 t10 H fun t11 H =>
  pFa 3 t11 H fun t12 H =>
  ldK .none H t12 fun t13 H =>
  pC call 67 [t13, (.fn 68 [] [t4, t5])] H fun t15 H =>
  pLss t15 (.int .i64 (.ofNat 0)) H fun t17 H =>
  onBool t17 (pO (someAgg (aFill [(.str []), (.str []), (.int .i64 (.ofNat 0)), .nilsl] [])) H fun t18 H =>
  stK 4 H t6 t18 fun _ H =>
  ob (allM (fun o => o) [aLoad (.some 4) H t6, some (.bool false)]) fun vs => some (resV vs, H)) (pO (aNil t0) H fun t20 H =>
  pFa 0 t20 H fun t21 H =>
  pFa 3 t21 H fun t22 H =>
  ldK .none H t22 fun t23 H =>
  pIa 4 t23 t15 H fun t25 H =>
  ldK (.some 4) H t25 fun t26 H =>
  stK 4 H t6 t26 fun _ H =>
  ob (allM (fun o => o) [aLoad (.some 4) H t6, some (.bool true)]) fun vs => some (resV vs, H))
noncomputable def S34 : Ff := ⟨fun call l H => argA3 (fun t0 t1 t2 => S34_0 call t0 t1 t2 H) l⟩
/- (*gantline/check.checker).must -/
noncomputable def S35_0 (call : CallFn) (t0 t1 t2 : AV) (H : AHeap) : R :=
  pBox t2 H fun t5 H =>
  pO (aUn .not t1) H fun t7 H =>
  onBool t7 (pFa 2 t5 H fun t9 H =>
  ldK .none H t9 fun t10 H =>
  pC call 69 [t0, t10] H fun _ H =>
  some (.tup [], H)) (some (.tup [], H))
noncomputable def S35 : Ff := ⟨fun call l H => argA3 (fun t0 t1 t2 => S35_0 call t0 t1 t2 H) l⟩
/- (*gantline/check.checker).fn -/
noncomputable def S36_0 (call : CallFn) (t0 t3 t4 t87 t94 t99 t101 : AV) (H : AHeap) : R :=
  andR (andB (ckV (aLoad (.some 4) H t3) t101) true) (
  pPick t94 (.bool true) t99 H fun t100 H =>
  pC call 35 [t87, t100, t101] H fun _ H =>
  ldK (.some 4) H t4 fun t104 H =>
  pO (aNil t0) H fun t105 H =>
  pFa 8 t105 H fun t106 H =>
  stK 4 H t106 t104 fun _ H =>
  some (.tup [], H))
noncomputable def S36_1 (call : CallFn) (t0 t3 t4 t87 t94 t98 : AV) (H : AHeap) : R :=
  ldK (.some 4) H t3 fun t101 H =>
  guardA t94 false (pC call 72 [t98] H fun t99 H =>
  S36_0 call t0 t3 t4 t87 t94 t99 t101 H) (S36_0 call t0 t3 t4 t87 t94 U t101 H)
noncomputable def S36_2 (call : CallFn) (t0 t3 t4 t87 t94 t97 : AV) (H : AHeap) : R :=
  guardA t94 false (ldK (.some 4) H t97 fun t98 H =>
  S36_1 call t0 t3 t4 t87 t94 t98 H) (S36_1 call t0 t3 t4 t87 t94 U H)
noncomputable def S36_3 (call : CallFn) (t0 t3 t4 t87 t94 t96 : AV) (H : AHeap) : R :=
  guardA t94 false (pIa 4 t96 (.int .i64 (.ofNat 2)) H fun t97 H =>
  S36_2 call t0 t3 t4 t87 t94 t97 H) (S36_2 call t0 t3 t4 t87 t94 U H)
noncomputable def S36_4 (call : CallFn) (t0 t3 t4 t87 t94 t95 : AV) (H : AHeap) : R :=
  guardA t94 false (ldK .none H t95 fun t96 H =>
  S36_3 call t0 t3 t4 t87 t94 t96 H) (S36_3 call t0 t3 t4 t87 t94 U H)
noncomputable def S36_5 (call : CallFn) (t0 t3 t4 : AV) (H : AHeap) : R :=
  pFa 3 t3 H fun t61 H =>
  ldK .none H t61 fun t62 H =>
  pIa 4 t62 (.int .i64 (.ofNat 2)) H fun t63 H =>
  ldK (.some 4) H t63 fun t64 H =>
  pC call 71 [t0, t64] H fun _ H =>
  pO (aNil t0) H fun t68 H =>
  pFa 6 t68 H fun t69 H =>
  ldK .none H t69 fun t70 H =>
  pO (aNil t0) H fun t72 H =>
  pFa 6 t72 H fun t73 H =>
  ldK .none H t73 fun t74 H =>
  pO (aLen .sl H t74) H fun t75 H =>
  pSub t75 (.int .i64 (.ofNat 1)) H fun t76 H =>
  pO (aSlice 1 H t70 .none (.some t76) .none) H fun t77 H =>
  pO (aNil t0) H fun t78 H =>
  pFa 6 t78 H fun t79 H =>
  stK 1 H t79 t77 fun _ H =>
  pO (aNil t0) H fun t81 H =>
  pFa 7 t81 H fun t82 H =>
  ldK .none H t82 fun t83 H =>
  pSub t83 (.int .i64 (.ofNat 1)) H fun t84 H =>
  pO (aNil t0) H fun t85 H =>
  pFa 7 t85 H fun t86 H =>
  stK 1 H t86 t84 fun _ H =>
  pO (aNil t0) H fun t89 H =>
  pFa 8 t89 H fun t90 H =>
  pFa 0 t90 H fun t91 H =>
  ldK .none H t91 fun t92 H =>
  pEql t92 (.str [110, 111, 110, 101]) H fun t93 H =>
  guardA t93 false (pFa 3 t3 H fun t95 H =>
  S36_4 call t0 t3 t4 t0 t93 t95 H) (S36_4 call t0 t3 t4 t0 t93 U H)
noncomputable def S36_6 (call : CallFn) (n : Nat) : AV → AV → AV → AV → AV → AV → AHeap → R :=
  Nat.rec (motive := fun _ => AV → AV → AV → AV → AV → AV → AHeap → R) (fun _ _ _ _ _ _ _ => none) (fun _ q0 t0 t3 t4 t45 t46 t47 H => pLss t47 t46 H fun t48 H =>
  onBool t48 (pIa 4 t45 t47 H fun t49 H =>
  ldK (.some 4) H t49 fun t50 H =>
  pNew [(.str []), (.str []), (.int .i64 (.ofNat 0)), .nilsl] H fun t6 H =>
  stK 4 H t6 t50 fun _ H =>
  pFa 1 t6 H fun t52 H =>
  ldK .none H t52 fun t53 H =>
  pFa 3 t6 H fun t54 H =>
  ldK .none H t54 fun t55 H =>
  pIa 4 t55 (.int .i64 (.ofNat 0)) H fun t56 H =>
  ldK (.some 4) H t56 fun t57 H =>
  pC call 70 [t0, t53, t57] H fun _ H =>
  pAdd t47 (.int .i64 (.ofNat 1)) H fun t59 H =>
  q0 t0 t3 t4 t45 t46 t59 H) (S36_5 call t0 t3 t4 H)) n
noncomputable def S36_7 (call : CallFn) (t0 t1 : AV) (H : AHeap) : R :=
  pBox t1 H fun t3 H =>
  pO (aNil t0) H fun t8 H =>
  pFa 8 t8 H fun t9 H =>
  ldK (.some 4) H t9 fun t10 H =>
  pNew [(.str []), (.str []), (.int .i64 (.ofNat 0)), .nilsl] H fun t4 H =>
  stK 4 H t4 t10 fun _ H =>
  pFa 3 t3 H fun t12 H =>
  ldK .none H t12 fun t13 H =>
  pIa 4 t13 (.int .i64 (.ofNat 1)) H fun t14 H =>
  ldK (.some 4) H t14 fun t15 H =>
  pO (aNil t0) H fun t16 H =>
  pFa 8 t16 H fun t17 H =>
  stK 4 H t17 t15 fun _ H =>
  pFa 3 t3 H fun t19 H =>
  ldK .none H t19 fun t20 H =>
  pIa 4 t20 (.int .i64 (.ofNat 0)) H fun t21 H =>
  pFa 3 t21 H fun t22 H =>
  ldK .none H t22 fun t23 H =>
  pC call 32 [t0, t23] H fun _ H =>
  pO (aNil t0) H fun t26 H =>
  pFa 7 t26 H fun t27 H =>
  ldK .none H t27 fun t28 H =>
  pAdd t28 (.int .i64 (.ofNat 1)) H fun t29 H =>
  pO (aNil t0) H fun t30 H =>
  pFa 7 t30 H fun t31 H =>
  stK 1 H t31 t29 fun _ H =>
  pO (aNil t0) H fun t34 H =>
  pFa 6 t34 H fun t35 H =>
  ldK .none H t35 fun t36 H =>
  pN (aBsl 1 1 [.nilsl] [(0, 1, .nilsl)]) H fun t37 H =>
  pW (aApp 1 24 H t36 t37) fun t38 H =>
  pO (aNil t0) H fun t39 H =>
  pFa 6 t39 H fun t40 H =>
  stK 1 H t40 t38 fun _ H =>
  pFa 3 t3 H fun t41 H =>
  ldK .none H t41 fun t42 H =>
  pIa 4 t42 (.int .i64 (.ofNat 0)) H fun t43 H =>
  pFa 3 t43 H fun t44 H =>
  ldK .none H t44 fun t45 H =>
  pO (aLen .sl H t45) H fun t46 H =>
  S36_6 call 1000000 t0 t3 t4 t45 t46 (.int .i64 (.ofNat 0)) H
noncomputable def S36 : Ff := ⟨fun call l H => argA2 (fun t0 t1 => S36_7 call t0 t1 H) l⟩
/- (*gantline/lower.maker).globals -/
noncomputable def S37_1 (_ : CallFn) (q0 : AV → AV → AV → AV → AHeap → R) (t0 t31 t32 t33 t37 t42 t46 : AV) (H : AHeap) : R :=
  pPick t42 (.bool true) t46 H fun t47 H =>
  pO (aNil t37) H fun t48 H =>
  pFa 10 t48 H fun t49 H =>
  stK 1 H t49 t47 fun _ H =>
  pAdd t33 (.int .i64 (.ofNat 1)) H fun t50 H =>
  q0 t0 t31 t32 t50 H
noncomputable def S37_0 (call : CallFn) (n : Nat) : AV → AV → AV → AV → AHeap → R :=
  Nat.rec (motive := fun _ => AV → AV → AV → AV → AHeap → R) (fun _ _ _ _ _ => none) (fun _ q0 t0 t31 t32 t33 H => pLss t33 t32 H fun t34 H =>
  onBool t34 (pIa 4 t31 t33 H fun t35 H =>
  ldK (.some 4) H t35 fun t36 H =>
  pNew [(.str []), (.str []), (.int .i64 (.ofNat 0)), .nilsl] H fun t5 H =>
  stK 4 H t5 t36 fun _ H =>
  pO (aNil t0) H fun t39 H =>
  pFa 10 t39 H fun t40 H =>
  ldK .none H t40 fun t41 H =>
  guardA t41 false (pFa 3 t5 H fun t43 H =>
  ldK .none H t43 fun t44 H =>
  pO (aLen .sl H t44) H fun t45 H =>
  pGtr t45 (.int .i64 (.ofNat 63)) H fun t46 H =>
  S37_1 call q0 t0 t31 t32 t33 t0 t41 t46 H) (S37_1 call q0 t0 t31 t32 t33 t0 t41 U H)) (some (.tup [], H))) n
noncomputable def S37_2 (call : CallFn) (t0 : AV) (H : AHeap) : R :=
  pC call 38 [t0, (.str [115, 116, 114, 117, 99, 116])] H fun t31 H =>
  pO (aLen .sl H t31) H fun t32 H =>
  S37_0 call 1000000 t0 t31 t32 (.int .i64 (.ofNat 0)) H
noncomputable def S37_3 (call : CallFn) (n : Nat) : AV → AV → AV → AV → AHeap → R :=
  Nat.rec (motive := fun _ => AV → AV → AV → AV → AHeap → R) (fun _ _ _ _ _ => none) (fun _ q1 t0 t7 t8 t9 H => pLss t9 t8 H fun t10 H =>
  onBool t10 (pIa 4 t7 t9 H fun t11 H =>
  ldK (.some 4) H t11 fun t12 H =>
  pNew [(.str []), (.str []), (.int .i64 (.ofNat 0)), .nilsl] H fun t3 H =>
  stK 4 H t3 t12 fun _ H =>
  pO (aNil t0) H fun t15 H =>
  pFa 4 t15 H fun t16 H =>
  pFa 1 t16 H fun t17 H =>
  ldK .none H t17 fun t18 H =>
  pFa 3 t3 H fun t19 H =>
  ldK .none H t19 fun t20 H =>
  pIa 4 t20 (.int .i64 (.ofNat 0)) H fun t21 H =>
  ldK (.some 4) H t21 fun t22 H =>
  pC call 73 [t22] H fun t23 H =>
  andR (andB (ckV (aLoad .none H t17) t18) true) (
  pN (aBsl 1 1 [(.bool false)] [(0, 1, t23)]) H fun t24 H =>
  pW (aApp 1 1 H t18 t24) fun t25 H =>
  pO (aNil t0) H fun t26 H =>
  pFa 4 t26 H fun t27 H =>
  pFa 1 t27 H fun t28 H =>
  stK 1 H t28 t25 fun _ H =>
  pAdd t9 (.int .i64 (.ofNat 1)) H fun t29 H =>
  q1 t0 t7 t8 t29 H)) (S37_2 call t0 H)) n
noncomputable def S37_4 (call : CallFn) (t0 : AV) (H : AHeap) : R :=
  pC call 38 [t0, (.str [103, 108, 111, 98, 97, 108])] H fun t7 H =>
  pO (aLen .sl H t7) H fun t8 H =>
  S37_3 call 1000000 t0 t7 t8 (.int .i64 (.ofNat 0)) H
noncomputable def S37 : Ff := ⟨fun call l H => argA1 (fun t0 => S37_4 call t0 H) l⟩
/- (*gantline/lower.maker).decls -/
noncomputable def S38_1 (_ : CallFn) (q0 : AV → AV → AV → AV → AV → AHeap → R) (t1 t5 t12 t13 t14 : AV) (H : AHeap) : R :=
  pAdd t14 (.int .i64 (.ofNat 1)) H fun t26 H =>
  q0 t1 t5 t12 t13 t26 H
noncomputable def S38_0 (call : CallFn) (n : Nat) : AV → AV → AV → AV → AV → AHeap → R :=
  Nat.rec (motive := fun _ => AV → AV → AV → AV → AV → AHeap → R) (fun _ _ _ _ _ _ => none) (fun _ q0 t1 t5 t12 t13 t14 H => pLss t14 t13 H fun t15 H =>
  onBool t15 (pIa 4 t12 t14 H fun t16 H =>
  ldK (.some 4) H t16 fun t17 H =>
  pNew [(.str []), (.str []), (.int .i64 (.ofNat 0)), .nilsl] H fun t7 H =>
  stK 4 H t7 t17 fun _ H =>
  pFa 0 t7 H fun t18 H =>
  ldK .none H t18 fun t19 H =>
  pEql t19 t1 H fun t21 H =>
  onBool t21 (ldK (.some 4) H t7 fun t23 H =>
  pN (aBsl 4 1 [(.str []), (.str []), (.int .i64 (.ofNat 0)), .nilsl] [(0, 4, t23)]) H fun t24 H =>
  pW (aApp 4 64 H t5 t24) fun t25 H =>
  S38_1 call q0 t1 t25 t12 t13 t14 H) (S38_1 call q0 t1 t5 t12 t13 t14 H)) (some (t5, H))) n
noncomputable def S38_2 (call : CallFn) (t0 t1 : AV) (H : AHeap) : R :=
  pO (aNil t0) H fun t9 H =>
  pFa 0 t9 H fun t10 H =>
  pFa 3 t10 H fun t11 H =>
  ldK .none H t11 fun t12 H =>
  pO (aLen .sl H t12) H fun t13 H =>
  S38_0 call 1000000 t1 .nilsl t12 t13 (.int .i64 (.ofNat 0)) H
noncomputable def S38 : Ff := ⟨fun call l H => argA2 (fun t0 t1 => S38_2 call t0 t1 H) l⟩
/- (*gantline/lower.maker).fn -/
noncomputable def S39_0 (call : CallFn) (t8 t131 t132 t133 t134 t135 t137 t138 t139 t140 t141 t144 t145 t146 t150 t154 t155 t158 : AV) (H : AHeap) : R :=
  ldK .none H t158 fun t159 H =>
  pO (aNil t8) H fun t161 H =>
  pFa 4 t161 H fun t162 H =>
  ldK .none H t162 fun t163 H =>
  pO (aLen .sl H t163) H fun t164 H =>
  pN (aMksl 1 8 [(.int .u64 (.ofNat 0))] t164 t164) H fun t165 H =>
  pC call 79 [t150] H fun t151 H =>
  andR (andB (ckV (aLoad .none H t131) t132) (andB (ckV (aLoad .none H t134) t135) (andB (ckV (aLoad .none H t137) t138) (andB (ckV (aLen .sl H t138) t139) (andB (ckV (aLen .sl H t140) t141) (andB (ckV (aLoad .none H t144) t145) (andB (ckV (aLen .sl H t145) t146) (andB (ckV (aLoad .none H t154) t155) (andB (ckV (aLoad .none H t158) t159) (andB (ckV (aLoad .none H t162) t163) (andB (ckV (aLen .sl H t163) t164) true))))))))))) (
  pO (someAgg (aFill [(.int .i64 (.ofNat 0)), (.int .i64 (.ofNat 0)), (.int .i64 (.ofNat 0)), (.int .i64 (.ofNat 0)), .nilsl, .nilsl, .nilsl] [(0, 1, t139), (1, 1, t141), (2, 1, t146), (3, 1, t151), (4, 1, t155), (5, 1, t159), (6, 1, t165)])) H fun t166 H =>
  pIa 7 t132 t133 H fun t167 H =>
  stK 7 H t167 t166 fun _ H =>
  some (.tup [], H))
noncomputable def S39_1 (call : CallFn) (t0 t1 t3 t6 t8 t100 t121 t124 : AV) (H : AHeap) : R :=
  pPick t121 (.bool true) t124 H fun t125 H =>
  pO (aNil t100) H fun t126 H =>
  pFa 10 t126 H fun t127 H =>
  stK 1 H t127 t125 fun _ H =>
  pO (aNil t0) H fun t129 H =>
  pFa 4 t129 H fun t130 H =>
  pFa 4 t130 H fun t131 H =>
  ldK .none H t131 fun t132 H =>
  pFa 3 t6 H fun t134 H =>
  ldK .none H t134 fun t135 H =>
  pIa 4 t135 (.int .i64 (.ofNat 0)) H fun t136 H =>
  pFa 3 t136 H fun t137 H =>
  ldK .none H t137 fun t138 H =>
  pO (aLen .sl H t138) H fun t139 H =>
  pO (aLen .sl H t3) H fun t141 H =>
  pO (aNil t8) H fun t143 H =>
  pFa 2 t143 H fun t144 H =>
  ldK .none H t144 fun t145 H =>
  pO (aLen .sl H t145) H fun t146 H =>
  pFa 3 t6 H fun t147 H =>
  ldK .none H t147 fun t148 H =>
  pIa 4 t148 (.int .i64 (.ofNat 1)) H fun t149 H =>
  ldK (.some 4) H t149 fun t150 H =>
  pO (aNil t8) H fun t153 H =>
  pFa 2 t153 H fun t154 H =>
  ldK .none H t154 fun t155 H =>
  pO (aNil t8) H fun t157 H =>
  pFa 4 t157 H fun t158 H =>
  S39_0 call t8 t131 t132 t1 t134 t135 t137 t138 t139 t3 t141 t144 t145 t146 t150 t154 t155 t158 H
noncomputable def S39_2 (call : CallFn) (t0 t1 t3 t6 t8 t100 t113 t119 : AV) (H : AHeap) : R :=
  pPick t113 (.bool true) t119 H fun t120 H =>
  guardA t120 false (pO (aLen .sl H t3) H fun t123 H =>
  pGtr t123 (.int .i64 (.ofNat 62)) H fun t124 H =>
  S39_1 call t0 t1 t3 t6 t8 t100 t120 t124 H) (S39_1 call t0 t1 t3 t6 t8 t100 t120 U H)
noncomputable def S39_3 (call : CallFn) (t0 t1 t3 t6 t8 t100 t105 t111 : AV) (H : AHeap) : R :=
  pPick t105 (.bool true) t111 H fun t112 H =>
  guardA t112 false (pO (aNil t8) H fun t115 H =>
  pFa 4 t115 H fun t116 H =>
  ldK .none H t116 fun t117 H =>
  pO (aLen .sl H t117) H fun t118 H =>
  pGtr t118 (.int .i64 (.ofNat 2048)) H fun t119 H =>
  S39_2 call t0 t1 t3 t6 t8 t100 t112 t119 H) (S39_2 call t0 t1 t3 t6 t8 t100 t112 U H)
noncomputable def S39_4 (call : CallFn) (t0 t1 t3 t6 t8 : AV) (H : AHeap) : R :=
  pO (aNil t0) H fun t102 H =>
  pFa 10 t102 H fun t103 H =>
  ldK .none H t103 fun t104 H =>
  guardA t104 false (pO (aNil t8) H fun t107 H =>
  pFa 2 t107 H fun t108 H =>
  ldK .none H t108 fun t109 H =>
  pO (aLen .sl H t109) H fun t110 H =>
  pGtr t110 (.int .i64 (.ofNat 64)) H fun t111 H =>
  S39_3 call t0 t1 t3 t6 t8 t0 t104 t111 H) (S39_3 call t0 t1 t3 t6 t8 t0 t104 U H)
noncomputable def S39_5 (call : CallFn) (t0 t1 t3 t6 t8 : AV) (H : AHeap) : R :=
  pO (aNil t8) H fun t75 H =>
  pFa 1 t75 H fun t76 H =>
  ldK .none H t76 fun t77 H =>
  pN (aBsl 1 1 [.nilsl] [(0, 1, .nilsl)]) H fun t78 H =>
  pW (aApp 1 24 H t77 t78) fun t79 H =>
  pO (aNil t8) H fun t80 H =>
  pFa 1 t80 H fun t81 H =>
  stK 1 H t81 t79 fun _ H =>
  pFa 3 t6 H fun t83 H =>
  ldK .none H t83 fun t84 H =>
  pIa 4 t84 (.int .i64 (.ofNat 2)) H fun t85 H =>
  ldK (.some 4) H t85 fun t86 H =>
  pC call 77 [t8, t86] H fun _ H =>
  pFa 3 t6 H fun t88 H =>
  ldK .none H t88 fun t89 H =>
  pIa 4 t89 (.int .i64 (.ofNat 1)) H fun t90 H =>
  pFa 0 t90 H fun t91 H =>
  ldK .none H t91 fun t92 H =>
  pEql t92 (.str [110, 111, 110, 101]) H fun t93 H =>
  onBool t93 (pO (someAgg (aFill [(.int .i64 (.ofNat 0)), (.int .i64 (.ofNat 0)), (.int .i64 (.ofNat 0)), (.int .i64 (.ofNat 0)), (.int .i64 (.ofNat 0))] [(0, 1, (.int .i64 (.ofNat 22))), (1, 1, (.int .i64 (.negSucc 0)))])) H fun t95 H =>
  pC call 78 [t8, t95] H fun _ H =>
  S39_4 call t0 t1 t3 t6 t8 H) (pO (someAgg (aFill [(.int .i64 (.ofNat 0)), (.int .i64 (.ofNat 0)), (.int .i64 (.ofNat 0)), (.int .i64 (.ofNat 0)), (.int .i64 (.ofNat 0))] [(0, 1, (.int .i64 (.ofNat 44))), (1, 1, (.int .i64 (.ofNat 1)))])) H fun t98 H =>
  pC call 78 [t8, t98] H fun _ H =>
  S39_4 call t0 t1 t3 t6 t8 H)
noncomputable def S39_6 (call : CallFn) (n : Nat) : AV → AV → AV → AV → AV → AV → AV → AV → AHeap → R :=
  Nat.rec (motive := fun _ => AV → AV → AV → AV → AV → AV → AV → AV → AHeap → R) (fun _ _ _ _ _ _ _ _ _ => none) (fun _ q0 t0 t1 t3 t6 t8 t43 t44 t45 H => pLss t45 t44 H fun t46 H =>
  onBool t46 (pIa 6 t43 t45 H fun t47 H =>
  ldK (.some 6) H t47 fun t48 H =>
  pNew [(.str []), (.str []), (.str []), (.int .i64 (.ofNat 0)), .nilsl, (.int .i64 (.ofNat 0))] H fun t12 H =>
  stK 6 H t12 t48 fun _ H =>
  pO (aNil t8) H fun t50 H =>
  pFa 1 t50 H fun t51 H =>
  ldK .none H t51 fun t52 H =>
  pO (aNil t8) H fun t54 H =>
  pFa 1 t54 H fun t55 H =>
  ldK .none H t55 fun t56 H =>
  pIa 1 t56 (.int .i64 (.ofNat 0)) H fun t57 H =>
  ldK .none H t57 fun t58 H =>
  pFa 0 t12 H fun t59 H =>
  ldK .none H t59 fun t60 H =>
  pFa 1 t12 H fun t61 H =>
  ldK (.some 4) H t61 fun t62 H =>
  pFa 1 t12 H fun t64 H =>
  ldK (.some 4) H t64 fun t65 H =>
  pC call 73 [t65] H fun t66 H =>
  andR (andB (ckV (aLoad .none H t51) t52) (andB (ckV (aLoad .none H t55) t56) (andB (ckV (aLoad .none H t57) t58) (andB (ckV (aLoad .none H t59) t60) (andB (ckV (aLoad (.some 4) H t61) t62) true))))) (
  pC call 75 [t8, t66] H fun t67 H =>
  andR (andB (ckV (aLoad .none H t51) t52) (andB (ckV (aLoad .none H t55) t56) (andB (ckV (aLoad .none H t57) t58) (andB (ckV (aLoad .none H t59) t60) (andB (ckV (aLoad (.some 4) H t61) t62) true))))) (
  pO (someAgg (aFill [(.str []), (.str []), (.str []), (.int .i64 (.ofNat 0)), .nilsl, (.int .i64 (.ofNat 0))] [(0, 1, t60), (1, 4, t62), (5, 1, t67)])) H fun t68 H =>
  pN (aBsl 6 1 [(.str []), (.str []), (.str []), (.int .i64 (.ofNat 0)), .nilsl, (.int .i64 (.ofNat 0))] [(0, 6, t68)]) H fun t69 H =>
  pC call 76 [t58, (.int .i64 (.ofNat 0)), t69] H fun t70 H =>
  andR (andB (ckV (aLoad .none H t51) t52) true) (
  pIa 1 t52 (.int .i64 (.ofNat 0)) H fun t71 H =>
  stK 1 H t71 t70 fun _ H =>
  pAdd t45 (.int .i64 (.ofNat 1)) H fun t72 H =>
  q0 t0 t1 t3 t6 t8 t43 t44 t72 H)))) (S39_5 call t0 t1 t3 t6 t8 H)) n
noncomputable def S39_7 (call : CallFn) (t0 t1 t3 t6 t8 : AV) (H : AHeap) : R :=
  pO (aLen .sl H t3) H fun t44 H =>
  S39_6 call 1000000 t0 t1 t3 t6 t8 t3 t44 (.int .i64 (.ofNat 0)) H
noncomputable def S39_8 (call : CallFn) (n : Nat) : AV → AV → AV → AV → AV → AV → AV → AV → AHeap → R :=
  Nat.rec (motive := fun _ => AV → AV → AV → AV → AV → AV → AV → AV → AHeap → R) (fun _ _ _ _ _ _ _ _ _ => none) (fun _ q1 t0 t1 t3 t6 t8 t21 t22 t23 H => pLss t23 t22 H fun t24 H =>
  onBool t24 (pIa 4 t21 t23 H fun t25 H =>
  ldK (.some 4) H t25 fun t26 H =>
  pNew [(.str []), (.str []), (.int .i64 (.ofNat 0)), .nilsl] H fun t10 H =>
  stK 4 H t10 t26 fun _ H =>
  pFa 1 t10 H fun t28 H =>
  ldK .none H t28 fun t29 H =>
  pFa 3 t10 H fun t30 H =>
  ldK .none H t30 fun t31 H =>
  pIa 4 t31 (.int .i64 (.ofNat 0)) H fun t32 H =>
  ldK (.some 4) H t32 fun t33 H =>
  pFa 3 t10 H fun t35 H =>
  ldK .none H t35 fun t36 H =>
  pIa 4 t36 (.int .i64 (.ofNat 0)) H fun t37 H =>
  ldK (.some 4) H t37 fun t38 H =>
  pC call 73 [t38] H fun t39 H =>
  andR (andB (ckV (aLoad .none H t28) t29) (andB (ckV (aLoad .none H t30) t31) (andB (ckV (aLoad (.some 4) H t32) t33) true))) (
  pC call 75 [t8, t39] H fun t40 H =>
  andR (andB (ckV (aLoad .none H t28) t29) (andB (ckV (aLoad .none H t30) t31) (andB (ckV (aLoad (.some 4) H t32) t33) true))) (
  pC call 74 [t8, t29, t33, t40] H fun _ H =>
  pAdd t23 (.int .i64 (.ofNat 1)) H fun t42 H =>
  q1 t0 t1 t3 t6 t8 t21 t22 t42 H))) (S39_7 call t0 t1 t3 t6 t8 H)) n
noncomputable def S39_9 (call : CallFn) (t0 t1 t2 t3 : AV) (H : AHeap) : R :=
  pBox t2 H fun t6 H =>
  pN (aBsl 1 1 [.nilsl] [(0, 1, .nilsl)]) H fun t14 H =>
  pO (someAgg (aFill [.nilp, .nilsl, .nilsl, .nilsl, .nilsl] [(0, 1, t0), (1, 1, t14)])) H fun t15 H =>
  pBox t15 H fun t16 H =>
  pFa 3 t6 H fun t17 H =>
  ldK .none H t17 fun t18 H =>
  pIa 4 t18 (.int .i64 (.ofNat 0)) H fun t19 H =>
  pFa 3 t19 H fun t20 H =>
  ldK .none H t20 fun t21 H =>
  pO (aLen .sl H t21) H fun t22 H =>
  S39_8 call 1000000 t0 t1 t3 t6 t16 t21 t22 (.int .i64 (.ofNat 0)) H
noncomputable def S39 : Ff := ⟨fun call l H => argA4 (fun t0 t1 t2 t3 => S39_9 call t0 t1 t2 t3 H) l⟩
/- gantline/lower.Loose -/
noncomputable def S40_0 (call : CallFn) (t0 : AV) (H : AHeap) : R :=
  pBox t0 H fun t1 H =>
  ldK (.some 6) H t1 fun t6 H =>
  pN (aBsl 1 2 [(.int .i64 (.ofNat 0))] [(0, 1, (.int .i64 (.ofNat 8))), (1, 1, (.int .i64 (.ofNat 9)))]) H fun t7 H =>
  pC call 80 [t6, t7] H fun t8 H =>
  pExt t8 0 H fun t9 H =>
  pExt t8 1 H fun t10 H =>
  pNew [(.int .i64 (.ofNat 0)), (.int .i64 (.ofNat 0)), (.int .i64 (.ofNat 0))] H fun t3 H =>
  stK 3 H t3 t9 fun _ H =>
  some (t10, H)
noncomputable def S40 : Ff := ⟨fun call l H => argA1 (fun t0 => S40_0 call t0 H) l⟩
/- gantline/emit.Polls -/
noncomputable def S41_0 (_ : CallFn) (t1 t2 : AV) (H : AHeap) : R :=
  ldK (.some 6) H t1 fun t144 H =>
  stK 6 H t2 t144 fun _ H =>
  ob (allM (fun o => o) [aLoad (.some 6) H t2]) fun vs => some (resV vs, H)
noncomputable def S41_2 (_ : CallFn) (q0 : AV → AV → AV → AV → AV → AV → AV → AHeap → R) (t1 t2 t3 t4 t26 t27 t28 : AV) (H : AHeap) : R :=
  pAdd t28 (.int .i64 (.ofNat 1)) H fun t143 H =>
  q0 t1 t2 t3 t4 t26 t27 t143 H
noncomputable def S41_3 (call : CallFn) (q0 : AV → AV → AV → AV → AV → AV → AV → AHeap → R) (t1 t2 t3 t4 t5 t12 t26 t27 t28 : AV) (H : AHeap) : R :=
  pFa 4 t1 H fun t129 H =>
  ldK .none H t129 fun t130 H =>
  pFa 4 t1 H fun t132 H =>
  ldK .none H t132 fun t133 H =>
  pO (aLen .sl H t12) H fun t137 H =>
  pN (aMksl 1 8 [(.int .u64 (.ofNat 0))] t137 t137) H fun t138 H =>
  pIa 7 t130 t5 H fun t139 H =>
  pFa 5 t139 H fun t140 H =>
  stK 1 H t140 t12 fun _ H =>
  andR (andB (ckV (aLoad .none H t132) t133) (andB (ckV (aLen .sl H t12) t137) true)) (
  pIa 7 t133 t5 H fun t141 H =>
  pFa 6 t141 H fun t142 H =>
  stK 1 H t142 t138 fun _ H =>
  S41_2 call q0 t1 t2 t3 t4 t26 t27 t28 H)
noncomputable def S41_5 (_ : CallFn) (q1 : AV → AV → AV → AV → AV → AV → AV → AV → AV → AV → AV → AV → AV → AV → AHeap → R) (t1 t2 t3 t4 t5 t7 t11 t12 t26 t27 t28 t60 t61 t62 : AV) (H : AHeap) : R :=
  pAdd t62 (.int .i64 (.ofNat 1)) H fun t128 H =>
  q1 t1 t2 t3 t4 t5 t7 t11 t12 t26 t27 t28 t60 t61 t128 H
noncomputable def S41_6 (call : CallFn) (q1 : AV → AV → AV → AV → AV → AV → AV → AV → AV → AV → AV → AV → AV → AV → AHeap → R) (t1 t2 t3 t4 t5 t7 t11 t12 t14 t26 t27 t28 t60 t61 t62 : AV) (H : AHeap) : R :=
  ldK (.some 5) H t14 fun t125 H =>
  pN (aBsl 5 1 [(.int .i64 (.ofNat 0)), (.int .i64 (.ofNat 0)), (.int .i64 (.ofNat 0)), (.int .i64 (.ofNat 0)), (.int .i64 (.ofNat 0))] [(0, 5, t125)]) H fun t126 H =>
  pW (aApp 5 40 H t12 t126) fun t127 H =>
  S41_5 call q1 t1 t2 t3 t4 t5 t7 t11 t127 t26 t27 t28 t60 t61 t62 H
noncomputable def S41_8 (_ : CallFn) (q2 : AV → AV → AV → AV → AV → AV → AV → AV → AV → AV → AV → AV → AV → AV → AV → AV → AV → AHeap → R) (t1 t2 t3 t4 t5 t7 t11 t12 t14 t16 t17 t26 t27 t28 t60 t61 t62 : AV) (H : AHeap) : R :=
  pAdd t17 (.int .i64 (.ofNat 1)) H fun t102 H =>
  q2 t1 t2 t3 t4 t5 t7 t11 t12 t14 t16 t102 t26 t27 t28 t60 t61 t62 H
noncomputable def S41_7 (call : CallFn) (q1 : AV → AV → AV → AV → AV → AV → AV → AV → AV → AV → AV → AV → AV → AV → AHeap → R) (n : Nat) : AV → AV → AV → AV → AV → AV → AV → AV → AV → AV → AV → AV → AV → AV → AV → AV → AV → AHeap → R :=
  Nat.rec (motive := fun _ => AV → AV → AV → AV → AV → AV → AV → AV → AV → AV → AV → AV → AV → AV → AV → AV → AV → AHeap → R) (fun _ _ _ _ _ _ _ _ _ _ _ _ _ _ _ _ _ _ => none) (fun _ q2 t1 t2 t3 t4 t5 t7 t11 t12 t14 t16 t17 t26 t27 t28 t60 t61 t62 H => pLss t17 t16 H fun t100 H =>
  onBool t100 (pIa 1 t4 t17 H fun t105 H =>
  ldK .none H t105 fun t106 H =>
  pO (aUn .not t106) H fun t107 H =>
  onBool t107 (pFa 3 t1 H fun t108 H =>
  ldK .none H t108 fun t109 H =>
  pFa 3 t3 H fun t114 H =>
  ldK .none H t114 fun t115 H =>
  pIa 4 t115 t17 H fun t117 H =>
  pFa 3 t117 H fun t118 H =>
  ldK .none H t118 fun t119 H =>
  pV call t11 [t119] H fun t120 H =>
  andR (andB (ckV (aLoad .none H t108) t109) true) (
  pIa 4 t109 t17 H fun t121 H =>
  pFa 3 t121 H fun t122 H =>
  stK 1 H t122 t120 fun _ H =>
  pIa 1 t4 t17 H fun t123 H =>
  stK 1 H t123 (.bool true) fun _ H =>
  S41_8 call q2 t1 t2 t3 t4 t5 t7 t11 t12 t14 t16 t17 t26 t27 t28 t60 t61 t62 H)) (S41_8 call q2 t1 t2 t3 t4 t5 t7 t11 t12 t14 t16 t17 t26 t27 t28 t60 t61 t62 H)) (S41_6 call q1 t1 t2 t3 t4 t5 t7 t11 t12 t14 t26 t27 t28 t60 t61 t62 H)) n
noncomputable def S41_9 (call : CallFn) (q1 : AV → AV → AV → AV → AV → AV → AV → AV → AV → AV → AV → AV → AV → AV → AHeap → R) (t1 t2 t3 t4 t5 t7 t11 t12 t14 t26 t27 t28 t60 t61 t62 : AV) (H : AHeap) : R :=
  ldK (.some 6) H t3 fun t92 H =>
  ldK (.some 5) H t14 fun t93 H =>
  pC call 84 [t92, t93] H fun t94 H =>
  pExt t94 0 H fun t95 H =>
  pExt t94 1 H fun t96 H =>
  S41_7 call q1 1000000 t1 t2 t3 t4 t5 t7 t11 t12 t14 t96 t95 t26 t27 t28 t60 t61 t62 H
noncomputable def S41_10 (call : CallFn) (q1 : AV → AV → AV → AV → AV → AV → AV → AV → AV → AV → AV → AV → AV → AV → AHeap → R) (t1 t2 t3 t4 t5 t7 t11 t12 t14 t26 t27 t28 t60 t61 t62 : AV) (H : AHeap) : R :=
  pFa 0 t14 H fun t75 H =>
  ldK .none H t75 fun t76 H =>
  pEql t76 (.int .i64 (.ofNat 18)) H fun t78 H =>
  onBool t78 (pFa 1 t14 H fun t80 H =>
  ldK .none H t80 fun t81 H =>
  pV call t11 [t81] H fun t82 H =>
  pFa 1 t14 H fun t83 H =>
  stK 1 H t83 t82 fun _ H =>
  S41_9 call q1 t1 t2 t3 t4 t5 t7 t11 t12 t14 t26 t27 t28 t60 t61 t62 H) (pEql t76 (.int .i64 (.ofNat 19)) H fun t85 H =>
  onBool t85 (pFa 2 t14 H fun t87 H =>
  ldK .none H t87 fun t88 H =>
  pV call t11 [t88] H fun t89 H =>
  pFa 2 t14 H fun t90 H =>
  stK 1 H t90 t89 fun _ H =>
  S41_9 call q1 t1 t2 t3 t4 t5 t7 t11 t12 t14 t26 t27 t28 t60 t61 t62 H) (S41_9 call q1 t1 t2 t3 t4 t5 t7 t11 t12 t14 t26 t27 t28 t60 t61 t62 H))
noncomputable def S41_4 (call : CallFn) (q0 : AV → AV → AV → AV → AV → AV → AV → AHeap → R) (n : Nat) : AV → AV → AV → AV → AV → AV → AV → AV → AV → AV → AV → AV → AV → AV → AHeap → R :=
  Nat.rec (motive := fun _ => AV → AV → AV → AV → AV → AV → AV → AV → AV → AV → AV → AV → AV → AV → AHeap → R) (fun _ _ _ _ _ _ _ _ _ _ _ _ _ _ _ => none) (fun _ q1 t1 t2 t3 t4 t5 t7 t11 t12 t26 t27 t28 t60 t61 t62 H => pLss t62 t61 H fun t63 H =>
  onBool t63 (pIa 5 t60 t62 H fun t65 H =>
  ldK (.some 5) H t65 fun t66 H =>
  pNew [(.int .i64 (.ofNat 0)), (.int .i64 (.ofNat 0)), (.int .i64 (.ofNat 0)), (.int .i64 (.ofNat 0)), (.int .i64 (.ofNat 0))] H fun t14 H =>
  stK 5 H t14 t66 fun _ H =>
  pIa 1 t7 t62 H fun t69 H =>
  ldK .none H t69 fun t70 H =>
  onBool t70 (pO (someAgg (aFill [(.int .i64 (.ofNat 0)), (.int .i64 (.ofNat 0)), (.int .i64 (.ofNat 0)), (.int .i64 (.ofNat 0)), (.int .i64 (.ofNat 0))] [(0, 1, (.int .i64 (.ofNat 43)))])) H fun t72 H =>
  pN (aBsl 5 1 [(.int .i64 (.ofNat 0)), (.int .i64 (.ofNat 0)), (.int .i64 (.ofNat 0)), (.int .i64 (.ofNat 0)), (.int .i64 (.ofNat 0))] [(0, 5, t72)]) H fun t73 H =>
  pW (aApp 5 40 H t12 t73) fun t74 H =>
  S41_10 call q1 t1 t2 t3 t4 t5 t7 t11 t74 t14 t26 t27 t28 t60 t61 t62 H) (S41_10 call q1 t1 t2 t3 t4 t5 t7 t11 t12 t14 t26 t27 t28 t60 t61 t62 H)) (S41_3 call q0 t1 t2 t3 t4 t5 t12 t26 t27 t28 H)) n
noncomputable def S41_11 (call : CallFn) (q0 : AV → AV → AV → AV → AV → AV → AV → AHeap → R) (t1 t2 t3 t4 t5 t6 t7 t8 t26 t27 t28 : AV) (H : AHeap) : R :=
  pFa 5 t6 H fun t59 H =>
  ldK .none H t59 fun t60 H =>
  pO (aLen .sl H t60) H fun t61 H =>
  S41_4 call q0 1000000 t1 t2 t3 t4 t5 t7 (.fn 83 [] [t8]) .nilsl t26 t27 t28 t60 t61 (.int .i64 (.ofNat 0)) H
noncomputable def S41_13 (_ : CallFn) (q3 : AV → AV → AV → AV → AV → AV → AV → AV → AV → AV → AV → AV → AV → AV → AHeap → R) (t1 t2 t3 t4 t5 t6 t7 t8 t9 t26 t27 t28 t41 t42 : AV) (H : AHeap) : R :=
  pAdd t42 (.int .i64 (.ofNat 1)) H fun t57 H =>
  q3 t1 t2 t3 t4 t5 t6 t7 t8 t9 t26 t27 t28 t41 t57 H
noncomputable def S41_12 (call : CallFn) (q0 : AV → AV → AV → AV → AV → AV → AV → AHeap → R) (n : Nat) : AV → AV → AV → AV → AV → AV → AV → AV → AV → AV → AV → AV → AV → AV → AHeap → R :=
  Nat.rec (motive := fun _ => AV → AV → AV → AV → AV → AV → AV → AV → AV → AV → AV → AV → AV → AV → AHeap → R) (fun _ _ _ _ _ _ _ _ _ _ _ _ _ _ _ => none) (fun _ q3 t1 t2 t3 t4 t5 t6 t7 t8 t9 t26 t27 t28 t41 t42 H => pLss t42 t41 H fun t43 H =>
  onBool t43 (ldK .none H t8 fun t45 H =>
  pAdd t42 t9 H fun t49 H =>
  pIa 1 t45 t42 H fun t50 H =>
  stK 1 H t50 t49 fun _ H =>
  pIa 1 t7 t42 H fun t53 H =>
  ldK .none H t53 fun t54 H =>
  onBool t54 (pAdd t9 (.int .i64 (.ofNat 1)) H fun t56 H =>
  S41_13 call q3 t1 t2 t3 t4 t5 t6 t7 t8 t56 t26 t27 t28 t41 t42 H) (S41_13 call q3 t1 t2 t3 t4 t5 t6 t7 t8 t9 t26 t27 t28 t41 t42 H)) (S41_11 call q0 t1 t2 t3 t4 t5 t6 t7 t8 t26 t27 t28 H)) n
noncomputable def S41_1 (call : CallFn) (n : Nat) : AV → AV → AV → AV → AV → AV → AV → AHeap → R :=
  Nat.rec (motive := fun _ => AV → AV → AV → AV → AV → AV → AV → AHeap → R) (fun _ _ _ _ _ _ _ _ => none) (fun _ q0 t1 t2 t3 t4 t26 t27 t28 H => pLss t28 t27 H fun t29 H =>
  onBool t29 (pIa 7 t26 t28 H fun t31 H =>
  ldK (.some 7) H t31 fun t32 H =>
  pNew [(.int .i64 (.ofNat 0)), (.int .i64 (.ofNat 0)), (.int .i64 (.ofNat 0)), (.int .i64 (.ofNat 0)), .nilsl, .nilsl, .nilsl] H fun t6 H =>
  stK 7 H t6 t32 fun _ H =>
  ldK (.some 6) H t3 fun t33 H =>
  ldK (.some 7) H t6 fun t34 H =>
  pC call 82 [t33, t34] H fun t35 H =>
  pFa 5 t6 H fun t36 H =>
  ldK .none H t36 fun t37 H =>
  pO (aLen .sl H t37) H fun t38 H =>
  pN (aMksl 1 8 [(.int .i64 (.ofNat 0))] t38 t38) H fun t39 H =>
  pNew [.nilsl] H fun t8 H =>
  stK 1 H t8 t39 fun _ H =>
  ldK .none H t8 fun t40 H =>
  pO (aLen .sl H t40) H fun t41 H =>
  S41_12 call q0 1000000 t1 t2 t3 t4 t28 t6 t35 t8 (.int .i64 (.ofNat 0)) t26 t27 t28 t41 (.int .i64 (.ofNat 0)) H) (S41_0 call t1 t2 H)) n
noncomputable def S41_14 (call : CallFn) (t0 : AV) (H : AHeap) : R :=
  pBox t0 H fun t1 H =>
  pNew [.nilsl, .nilsl, .nilsl, .nilsl, .nilsl, (.int .i64 (.ofNat 0))] H fun t2 H =>
  ldK (.some 6) H t1 fun t18 H =>
  pNew [.nilsl, .nilsl, .nilsl, .nilsl, .nilsl, (.int .i64 (.ofNat 0))] H fun t3 H =>
  stK 6 H t3 t18 fun _ H =>
  ldK (.some 6) H t1 fun t19 H =>
  pC call 81 [t19] H fun t20 H =>
  stK 6 H t1 t20 fun _ H =>
  pFa 3 t1 H fun t21 H =>
  ldK .none H t21 fun t22 H =>
  pO (aLen .sl H t22) H fun t23 H =>
  pN (aMksl 1 1 [(.bool false)] t23 t23) H fun t24 H =>
  pFa 4 t3 H fun t25 H =>
  ldK .none H t25 fun t26 H =>
  pO (aLen .sl H t26) H fun t27 H =>
  S41_1 call 1000000 t1 t2 t3 t24 t26 t27 (.int .i64 (.ofNat 0)) H
noncomputable def S41 : Ff := ⟨fun call l H => argA1 (fun t0 => S41_14 call t0 H) l⟩
/- slices.ContainsFunc[[]gantline/code.Func,gantline/code.Func] -/
noncomputable def S42_0 (call : CallFn) (t0 t1 : AV) (H : AHeap) : R :=
  pC call 85 [t0, t1] H fun t7 H =>
  pGeq t7 (.int .i64 (.ofNat 0)) H fun t8 H =>
  some (t8, H)
noncomputable def S42 : Ff := ⟨fun call l H => argA2 (fun t0 t1 => S42_0 call t0 t1 H) l⟩
/- gantline/emit.Emit$1 -/
noncomputable def S43_0 (_ : CallFn) (t0 : AV) (H : AHeap) : R :=
  pBox t0 H fun t1 H =>
  pFa 5 t1 H fun t3 H =>
  ldK .none H t3 fun t4 H =>
  pO (aLen .sl H t4) H fun t5 H =>
  pGtr t5 (.int .i64 (.ofNat 4096)) H fun t6 H =>
  some (t6, H)
noncomputable def S43 : Ff := ⟨fun call l H => argA1 (fun t0 => S43_0 call t0 H) l⟩
/- gantline/emit.Maps -/
noncomputable def S44_0 (_ : CallFn) (t1 t2 : AV) (H : AHeap) : R :=
  ldK (.some 6) H t1 fun t26 H =>
  stK 6 H t2 t26 fun _ H =>
  ob (allM (fun o => o) [aLoad (.some 6) H t2]) fun vs => some (resV vs, H)
noncomputable def S44_1 (call : CallFn) (n : Nat) : AV → AV → AV → AV → AV → AV → AHeap → R :=
  Nat.rec (motive := fun _ => AV → AV → AV → AV → AV → AV → AHeap → R) (fun _ _ _ _ _ _ _ => none) (fun _ q0 t1 t2 t3 t10 t11 t12 H => pLss t12 t11 H fun t13 H =>
  onBool t13 (pIa 7 t10 t12 H fun t15 H =>
  ldK (.some 7) H t15 fun t16 H =>
  pNew [(.int .i64 (.ofNat 0)), (.int .i64 (.ofNat 0)), (.int .i64 (.ofNat 0)), (.int .i64 (.ofNat 0)), .nilsl, .nilsl, .nilsl] H fun t5 H =>
  stK 7 H t5 t16 fun _ H =>
  pFa 4 t1 H fun t17 H =>
  ldK .none H t17 fun t18 H =>
  ldK (.some 6) H t3 fun t20 H =>
  ldK (.some 7) H t5 fun t21 H =>
  pC call 86 [t20, t21] H fun t22 H =>
  andR (andB (ckV (aLoad .none H t17) t18) true) (
  pIa 7 t18 t12 H fun t23 H =>
  pFa 6 t23 H fun t24 H =>
  stK 1 H t24 t22 fun _ H =>
  pAdd t12 (.int .i64 (.ofNat 1)) H fun t25 H =>
  q0 t1 t2 t3 t10 t11 t25 H)) (S44_0 call t1 t2 H)) n
noncomputable def S44_2 (call : CallFn) (t0 : AV) (H : AHeap) : R :=
  pBox t0 H fun t1 H =>
  pNew [.nilsl, .nilsl, .nilsl, .nilsl, .nilsl, (.int .i64 (.ofNat 0))] H fun t2 H =>
  ldK (.some 6) H t1 fun t6 H =>
  pNew [.nilsl, .nilsl, .nilsl, .nilsl, .nilsl, (.int .i64 (.ofNat 0))] H fun t3 H =>
  stK 6 H t3 t6 fun _ H =>
  ldK (.some 6) H t1 fun t7 H =>
  pC call 81 [t7] H fun t8 H =>
  stK 6 H t1 t8 fun _ H =>
  pFa 4 t3 H fun t9 H =>
  ldK .none H t9 fun t10 H =>
  pO (aLen .sl H t10) H fun t11 H =>
  S44_1 call 1000000 t1 t2 t3 t10 t11 (.int .i64 (.ofNat 0)) H
noncomputable def S44 : Ff := ⟨fun call l H => argA1 (fun t0 => S44_2 call t0 H) l⟩
/- gantline/emit.Spares -/
noncomputable def S45_0 (_ : CallFn) (t1 t2 : AV) (H : AHeap) : R :=
  ldK (.some 6) H t1 fun t61 H =>
  stK 6 H t2 t61 fun _ H =>
  ob (allM (fun o => o) [aLoad (.some 6) H t2]) fun vs => some (resV vs, H)
noncomputable def S45_2 (_ : CallFn) (q0 : AV → AV → AV → AV → AV → AV → AHeap → R) (t1 t2 t3 t13 t14 t15 : AV) (H : AHeap) : R :=
  pAdd t15 (.int .i64 (.ofNat 1)) H fun t60 H =>
  q0 t1 t2 t3 t13 t14 t60 H
noncomputable def S45_4 (_ : CallFn) (q1 : AV → AV → AV → AV → AV → AV → AV → AV → AV → AV → AV → AV → AHeap → R) (t1 t2 t3 t4 t5 t6 t13 t14 t15 t24 t25 t26 : AV) (H : AHeap) : R :=
  pAdd t26 (.int .i64 (.ofNat 1)) H fun t59 H =>
  q1 t1 t2 t3 t4 t5 t6 t13 t14 t15 t24 t25 t59 H
noncomputable def S45_5 (call : CallFn) (q1 : AV → AV → AV → AV → AV → AV → AV → AV → AV → AV → AV → AV → AHeap → R) (t1 t2 t3 t4 t5 t6 t7 t13 t14 t15 t24 t25 t26 t39 t44 : AV) (H : AHeap) : R :=
  pPick t39 (.bool true) t44 H fun t45 H =>
  onBool t45 (S45_4 call q1 t1 t2 t3 t4 t5 t6 t13 t14 t15 t24 t25 t26 H) (pFa 4 t1 H fun t46 H =>
  ldK .none H t46 fun t47 H =>
  pIa 7 t47 t4 H fun t49 H =>
  pFa 5 t49 H fun t50 H =>
  ldK .none H t50 fun t51 H =>
  pIa 5 t51 t7 H fun t53 H =>
  pFa 0 t53 H fun t54 H =>
  ldK .none H t54 fun t55 H =>
  pAdd t55 (.int .i64 (.ofNat 1)) H fun t56 H =>
  pIa 5 t51 t7 H fun t57 H =>
  pFa 0 t57 H fun t58 H =>
  stK 1 H t58 t56 fun _ H =>
  S45_4 call q1 t1 t2 t3 t4 t5 t6 t13 t14 t15 t24 t25 t26 H)
noncomputable def S45_6 (call : CallFn) (q1 : AV → AV → AV → AV → AV → AV → AV → AV → AV → AV → AV → AV → AHeap → R) (t1 t2 t3 t4 t5 t6 t7 t13 t14 t15 t24 t25 t26 t34 t37 : AV) (H : AHeap) : R :=
  pPick t34 t37 (.bool false) H fun t38 H =>
  guardA t38 false (ldK (.some 7) H t5 fun t40 H =>
  pC call 88 [t40, t6, t7] H fun t43 H =>
  pO (aUn .not t43) H fun t44 H =>
  S45_5 call q1 t1 t2 t3 t4 t5 t6 t7 t13 t14 t15 t24 t25 t26 t38 t44 H) (S45_5 call q1 t1 t2 t3 t4 t5 t6 t7 t13 t14 t15 t24 t25 t26 t38 U H)
noncomputable def S45_3 (call : CallFn) (q0 : AV → AV → AV → AV → AV → AV → AHeap → R) (n : Nat) : AV → AV → AV → AV → AV → AV → AV → AV → AV → AV → AV → AV → AHeap → R :=
  Nat.rec (motive := fun _ => AV → AV → AV → AV → AV → AV → AV → AV → AV → AV → AV → AV → AHeap → R) (fun _ _ _ _ _ _ _ _ _ _ _ _ _ => none) (fun _ q1 t1 t2 t3 t4 t5 t6 t13 t14 t15 t24 t25 t26 H => pLss t26 t25 H fun t27 H =>
  onBool t27 (pIa 5 t24 t26 H fun t29 H =>
  ldK (.some 5) H t29 fun t30 H =>
  pNew [(.int .i64 (.ofNat 0)), (.int .i64 (.ofNat 0)), (.int .i64 (.ofNat 0)), (.int .i64 (.ofNat 0)), (.int .i64 (.ofNat 0))] H fun t8 H =>
  stK 5 H t8 t30 fun _ H =>
  pFa 0 t8 H fun t31 H =>
  ldK .none H t31 fun t32 H =>
  pNeq t32 (.int .i64 (.ofNat 28)) H fun t33 H =>
  guardA t33 true (pFa 0 t8 H fun t35 H =>
  ldK .none H t35 fun t36 H =>
  pNeq t36 (.int .i64 (.ofNat 31)) H fun t37 H =>
  S45_6 call q1 t1 t2 t3 t4 t5 t6 t26 t13 t14 t15 t24 t25 t26 t33 t37 H) (S45_6 call q1 t1 t2 t3 t4 t5 t6 t26 t13 t14 t15 t24 t25 t26 t33 U H)) (S45_2 call q0 t1 t2 t3 t13 t14 t15 H)) n
noncomputable def S45_1 (call : CallFn) (n : Nat) : AV → AV → AV → AV → AV → AV → AHeap → R :=
  Nat.rec (motive := fun _ => AV → AV → AV → AV → AV → AV → AHeap → R) (fun _ _ _ _ _ _ _ => none) (fun _ q0 t1 t2 t3 t13 t14 t15 H => pLss t15 t14 H fun t16 H =>
  onBool t16 (pIa 7 t13 t15 H fun t18 H =>
  ldK (.some 7) H t18 fun t19 H =>
  pNew [(.int .i64 (.ofNat 0)), (.int .i64 (.ofNat 0)), (.int .i64 (.ofNat 0)), (.int .i64 (.ofNat 0)), .nilsl, .nilsl, .nilsl] H fun t5 H =>
  stK 7 H t5 t19 fun _ H =>
  ldK (.some 6) H t3 fun t20 H =>
  ldK (.some 7) H t5 fun t21 H =>
  pC call 87 [t20, t21] H fun t22 H =>
  pFa 5 t5 H fun t23 H =>
  ldK .none H t23 fun t24 H =>
  pO (aLen .sl H t24) H fun t25 H =>
  S45_3 call q0 1000000 t1 t2 t3 t15 t5 t22 t13 t14 t15 t24 t25 (.int .i64 (.ofNat 0)) H) (S45_0 call t1 t2 H)) n
noncomputable def S45_7 (call : CallFn) (t0 : AV) (H : AHeap) : R :=
  pBox t0 H fun t1 H =>
  pNew [.nilsl, .nilsl, .nilsl, .nilsl, .nilsl, (.int .i64 (.ofNat 0))] H fun t2 H =>
  ldK (.some 6) H t1 fun t9 H =>
  pNew [.nilsl, .nilsl, .nilsl, .nilsl, .nilsl, (.int .i64 (.ofNat 0))] H fun t3 H =>
  stK 6 H t3 t9 fun _ H =>
  ldK (.some 6) H t1 fun t10 H =>
  pC call 81 [t10] H fun t11 H =>
  stK 6 H t1 t11 fun _ H =>
  pFa 4 t3 H fun t12 H =>
  ldK .none H t12 fun t13 H =>
  pO (aLen .sl H t13) H fun t14 H =>
  S45_1 call 1000000 t1 t2 t3 t13 t14 (.int .i64 (.ofNat 0)) H
noncomputable def S45 : Ff := ⟨fun call l H => argA1 (fun t0 => S45_7 call t0 H) l⟩
/- internal/strconv.FormatInt -/
noncomputable def S47_0 (call : CallFn) (t0 t5 t6 : AV) (H : AHeap) : R :=
  pC call 90 [t6] H fun t27 H =>
  pAdd (.int .i64 (.ofNat 1)) t27 H fun t29 H =>
  pO (aSliceA 1 24 t5 (.some (.int .i64 (.ofNat 1))) (.some t29) .none) H fun t30 H =>
  pC call 91 [t30, t6] H fun _ H =>
  pLss t0 (.int .i64 (.ofNat 0)) H fun t34 H =>
  onBool t34 (pIaA 1 24 t5 (.int .i64 (.ofNat 0)) H fun t35 H =>
  stK 1 H t35 (.int .u8 (.ofNat 45)) fun _ H =>
  pAdd (.int .i64 (.ofNat 1)) t27 H fun t37 H =>
  pO (aSliceA 1 24 t5 .none (.some t37) .none) H fun t38 H =>
  pO (strOnly t38) H fun t39 H =>
  some (t39, H)) (pAdd (.int .i64 (.ofNat 1)) t27 H fun t41 H =>
  pO (aSliceA 1 24 t5 (.some (.int .i64 (.ofNat 1))) (.some t41) .none) H fun t42 H =>
  pO (strOnly t42) H fun t43 H =>
  some (t43, H))
noncomputable def S47_1 (call : CallFn) (t0 t14 t16 : AV) (H : AHeap) : R :=
  pPick t14 t16 (.bool false) H fun t17 H =>
  onBool t17 (pC call 89 [t0] H fun t19 H =>
  some (t19, H)) (pNew [(.int .u8 (.ofNat 0)), (.int .u8 (.ofNat 0)), (.int .u8 (.ofNat 0)), (.int .u8 (.ofNat 0)), (.int .u8 (.ofNat 0)), (.int .u8 (.ofNat 0)), (.int .u8 (.ofNat 0)), (.int .u8 (.ofNat 0)), (.int .u8 (.ofNat 0)), (.int .u8 (.ofNat 0)), (.int .u8 (.ofNat 0)), (.int .u8 (.ofNat 0)), (.int .u8 (.ofNat 0)), (.int .u8 (.ofNat 0)), (.int .u8 (.ofNat 0)), (.int .u8 (.ofNat 0)), (.int .u8 (.ofNat 0)), (.int .u8 (.ofNat 0)), (.int .u8 (.ofNat 0)), (.int .u8 (.ofNat 0)), (.int .u8 (.ofNat 0)), (.int .u8 (.ofNat 0)), (.int .u8 (.ofNat 0)), (.int .u8 (.ofNat 0))] H fun t5 H =>
  pConv .u64 t0 H fun t21 H =>
  pLss t0 (.int .i64 (.ofNat 0)) H fun t23 H =>
  onBool t23 (pO (aUn .neg t21) H fun t25 H =>
  S47_0 call t0 t5 t25 H) (S47_0 call t0 t5 t21 H))
noncomputable def S47_2 (call : CallFn) (t0 t1 : AV) (H : AHeap) : R :=
  pEql t1 (.int .i64 (.ofNat 10)) H fun t11 H =>
  onBool t11 (pLeq (.int .i64 (.ofNat 0)) t0 H fun t13 H =>
  guardA t13 true (pLss t0 (.int .i64 (.ofNat 100)) H fun t16 H =>
  S47_1 call t0 t13 t16 H) (S47_1 call t0 t13 U H)) (pConv .u64 t0 H fun t46 H =>
  pLss t0 (.int .i64 (.ofNat 0)) H fun t49 H =>
  pC call 92 [.nilsl, t46, t1, t49, (.bool false)] H fun t50 H =>
  pExt t50 0 H fun _ H =>
  pExt t50 1 H fun t52 H =>
  some (t52, H))
noncomputable def S47 : Ff := ⟨fun call l H => argA2 (fun t0 t1 => S47_2 call t0 t1 H) l⟩
/- gantline/vm.New -/
noncomputable def S48_0 (call : CallFn) (t0 t1 : AV) (H : AHeap) : R :=
  pBox t0 H fun t2 H =>
  ldK (.some 6) H t2 fun t9 H =>
  pC call 93 [t9] H fun t10 H =>
  pO (aUn .not t10) H fun t11 H =>
  onBool t11 (some (.tup [.nilp, (.int .i64 (.ofNat 8))], H)) (pFa 0 t2 H fun t14 H =>
  ldK .none H t14 fun t15 H =>
  pC call 94 [t1, t15] H fun t16 H =>
  pExt t16 0 H fun t17 H =>
  pExt t16 1 H fun t18 H =>
  pNeq t18 (.int .i64 (.ofNat 0)) H fun t20 H =>
  onBool t20 (some (.tup [.nilp, t18], H)) (ldK (.some 6) H t2 fun t22 H =>
  pC call 95 [t22] H fun t23 H =>
  stK 6 H t2 t23 fun _ H =>
  ldK (.some 6) H t2 fun t24 H =>
  ldK (.some 6) H t2 fun t26 H =>
  pFa 1 t2 H fun t28 H =>
  ldK .none H t28 fun t29 H =>
  pO (aLen .sl H t29) H fun t30 H =>
  pN (aMksl 1 8 [(.int .i64 (.ofNat 0))] t30 t30) H fun t31 H =>
  pC call 96 [t26] H fun t27 H =>
  andR (andB (ckV (aLoad (.some 6) H t2) t24) (andB (ckV (aLoad .none H t28) t29) (andB (ckV (aLen .sl H t29) t30) true))) (
  pO (someAgg (aFill [.nilsl, .nilsl, .nilsl, .nilsl, .nilsl, (.int .i64 (.ofNat 0)), .nilp, .nilp, .nilsl, .nilsl, .nilsl, (.int .i64 (.ofNat 0)), (.int .i64 (.ofNat 0))] [(0, 6, t24), (6, 1, t17), (7, 1, t27), (8, 1, t31)])) H fun t32 H =>
  pBox t32 H fun t33 H =>
  pO (aNil t33) H fun t35 H =>
  pFa 7 t35 H fun t36 H =>
  ldK .none H t36 fun t37 H =>
  pFa 5 t2 H fun t38 H =>
  ldK .none H t38 fun t39 H =>
  pC call 97 [t37, t39, .nilsl] H fun _ H =>
  pC call 98 [t33] H fun _ H =>
  some (.tup [t33, (.int .i64 (.ofNat 0))], H))))
noncomputable def S48 : Ff := ⟨fun call l H => argA2 (fun t0 t1 => S48_0 call t0 t1 H) l⟩
/- gantline/run.Told -/
noncomputable def S50_0 (call : CallFn) (t0 t1 : AV) (H : AHeap) : R :=
  pNew [.nilsl, (.int .i64 (.ofNat 0)), (.int .i64 (.ofNat 0)), (.int .i64 (.ofNat 0)), (.int .i64 (.ofNat 0)), (.int .i64 (.ofNat 0)), .nilsl] H fun t4 H =>
  pC call 99 [t0] H fun t9 H =>
  pExt t9 0 H fun t10 H =>
  pExt t9 1 H fun t11 H =>
  pC call 104 [t0] H fun t13 H =>
  pC call 105 [t0] H fun t18 H =>
  pC call 106 [t18] H fun t19 H =>
  pC call 107 [t19] H fun t20 H =>
  pC call 105 [t0] H fun t22 H =>
  pC call 108 [t22] H fun t23 H =>
  pC call 109 [t0] H fun t25 H =>
  pO (someAgg (aFill [.nilsl, (.int .i64 (.ofNat 0)), (.int .i64 (.ofNat 0)), (.int .i64 (.ofNat 0)), (.int .i64 (.ofNat 0)), (.int .i64 (.ofNat 0)), .nilsl] [(0, 1, t13), (1, 1, t10), (2, 1, t11), (3, 1, t1), (4, 1, t20), (5, 1, t23), (6, 1, t25)])) H fun t26 H =>
  stK 7 H t4 t26 fun _ H =>
  ob (allM (fun o => o) [aLoad (.some 7) H t4]) fun vs => some (resV vs, H)
noncomputable def S50 : Ff := ⟨fun call l H => argA2 (fun t0 t1 => S50_0 call t0 t1 H) l⟩
/- strings.Index -/
noncomputable def S56_0 (call : CallFn) (t0 t1 : AV) (H : AHeap) : R :=
  pC call 114 [t0, t1] H fun t7 H =>
  some (t7, H)
noncomputable def S56 : Ff := ⟨fun call l H => argA2 (fun t0 t1 => S56_0 call t0 t1 H) l⟩
/- strconv.Atoi -/
noncomputable def S57_0 (call : CallFn) (t0 : AV) (H : AHeap) : R :=
  pC call 115 [t0] H fun t8 H =>
  pExt t8 0 H fun t9 H =>
  pExt t8 1 H fun t10 H =>
  pO (aEq true .ifc t10 .nilif) H fun t12 H =>
  onBool t12 (pC call 116 [(.str [65, 116, 111, 105]), t0, (.int .i64 (.ofNat 0)), (.int .i64 (.ofNat 0)), t10] H fun t16 H =>
  some (.tup [t9, t16], H)) (some (.tup [t9, .nilif], H))
noncomputable def S57 : Ff := ⟨fun call l H => argA1 (fun t0 => S57_0 call t0 H) l⟩
/- strings.TrimPrefix -/
noncomputable def S58_0 (call : CallFn) (t0 t1 : AV) (H : AHeap) : R :=
  pC call 117 [t0, t1] H fun t7 H =>
  some (t7, H)
noncomputable def S58 : Ff := ⟨fun call l H => argA2 (fun t0 t1 => S58_0 call t0 t1 H) l⟩
/- gantline/lex.blanks -/
noncomputable def S59_1 (call : CallFn) (q0 : AV → AV → AHeap → R) (t0 t3 t24 t26 : AV) (H : AHeap) : R :=
  pPick t24 (.bool true) t26 H fun t27 H =>
  onBool t27 (pAdd t3 (.int .i64 (.ofNat 1)) H fun t29 H =>
  q0 t0 t29 H) (pO (aSliceS t0 (.some t3) .none) H fun t33 H =>
  pC call 118 [t33, (.str [47, 47])] H fun t34 H =>
  onBool t34 (pO (aSliceS t0 (.some t3) .none) H fun t38 H =>
  pC call 119 [t38, (.fn 120 [] [])] H fun t39 H =>
  pAdd t3 t39 H fun t40 H =>
  q0 t0 t40 H) (some (t3, H)))
noncomputable def S59_2 (call : CallFn) (q0 : AV → AV → AHeap → R) (t0 t3 t4 t20 t22 : AV) (H : AHeap) : R :=
  pPick t20 (.bool true) t22 H fun t23 H =>
  guardA t23 false (pEql t4 (.int .u8 (.ofNat 13)) H fun t26 H =>
  S59_1 call q0 t0 t3 t23 t26 H) (S59_1 call q0 t0 t3 t23 U H)
noncomputable def S59_3 (call : CallFn) (q0 : AV → AV → AHeap → R) (t0 t3 t4 t16 t18 : AV) (H : AHeap) : R :=
  pPick t16 (.bool true) t18 H fun t19 H =>
  guardA t19 false (pEql t4 (.int .u8 (.ofNat 10)) H fun t22 H =>
  S59_2 call q0 t0 t3 t4 t19 t22 H) (S59_2 call q0 t0 t3 t4 t19 U H)
noncomputable def S59_0 (call : CallFn) (n : Nat) : AV → AV → AHeap → R :=
  Nat.rec (motive := fun _ => AV → AV → AHeap → R) (fun _ _ _ => none) (fun _ q0 t0 t3 H => pO (aLen .str H t0) H fun t7 H =>
  pLss t3 t7 H fun t8 H =>
  onBool t8 (pO (aIdxS t0 t3) H fun t11 H =>
  pEql t11 (.int .u8 (.ofNat 32)) H fun t15 H =>
  guardA t15 false (pEql t11 (.int .u8 (.ofNat 9)) H fun t18 H =>
  S59_3 call q0 t0 t3 t11 t15 t18 H) (S59_3 call q0 t0 t3 t11 t15 U H)) (some (t3, H))) n
noncomputable def S59 : Ff := ⟨fun call l H => argA1 (fun t0 => S59_0 call 1000000 t0 (.int .i64 (.ofNat 0)) H) l⟩
/- gantline/lex.word -/
noncomputable def S60_0 (_ : CallFn) (t2 : AV) (H : AHeap) : R :=
  pO (someAgg (aFill [(.int .i64 (.ofNat 0)), (.str []), (.int .i64 (.ofNat 0))] [])) H fun t63 H =>
  stK 3 H t2 t63 fun _ H =>
  ob (allM (fun o => o) [aLoad (.some 3) H t2]) fun vs => some (resV vs, H)
noncomputable def S60_1 (call : CallFn) (n : Nat) : AV → AV → AV → AV → AV → AHeap → R :=
  Nat.rec (motive := fun _ => AV → AV → AV → AV → AV → AHeap → R) (fun _ _ _ _ _ _ => none) (fun _ q0 t0 t2 t51 t52 t53 H => pLss t53 t52 H fun t54 H =>
  onBool t54 (pIa 1 t51 t53 H fun t55 H =>
  ldK .none H t55 fun t56 H =>
  pC call 118 [t0, t56] H fun t59 H =>
  onBool t59 (pO (someAgg (aFill [(.int .i64 (.ofNat 0)), (.str []), (.int .i64 (.ofNat 0))] [(0, 1, (.int .i64 (.ofNat 4))), (1, 1, t56)])) H fun t61 H =>
  stK 3 H t2 t61 fun _ H =>
  ob (allM (fun o => o) [aLoad (.some 3) H t2]) fun vs => some (resV vs, H)) (pAdd t53 (.int .i64 (.ofNat 1)) H fun t62 H =>
  q0 t0 t2 t51 t52 t62 H)) (S60_0 call t2 H)) n
noncomputable def S60_2 (_ : CallFn) (t2 t3 : AV) (H : AHeap) : R :=
  pFa 1 t3 H fun t22 H =>
  ldK .none H t22 fun t23 H =>
  pO (aLen .str H t23) H fun t24 H =>
  pGtr t24 (.int .i64 (.ofNat 64)) H fun t25 H =>
  onBool t25 (pO (someAgg (aFill [(.int .i64 (.ofNat 0)), (.str []), (.int .i64 (.ofNat 0))] [])) H fun t26 H =>
  stK 3 H t2 t26 fun _ H =>
  ob (allM (fun o => o) [aLoad (.some 3) H t2]) fun vs => some (resV vs, H)) (ldK (.some 3) H t3 fun t27 H =>
  stK 3 H t2 t27 fun _ H =>
  ob (allM (fun o => o) [aLoad (.some 3) H t2]) fun vs => some (resV vs, H))
noncomputable def S60_3 (_ : CallFn) (t2 t4 t45 t47 : AV) (H : AHeap) : R :=
  pPick t45 (.bool true) t47 H fun t48 H =>
  onBool t48 (pO (someAgg (aFill [(.int .i64 (.ofNat 0)), (.str []), (.int .i64 (.ofNat 0))] [])) H fun t49 H =>
  stK 3 H t2 t49 fun _ H =>
  ob (allM (fun o => o) [aLoad (.some 3) H t2]) fun vs => some (resV vs, H)) (ldK (.some 3) H t4 fun t50 H =>
  stK 3 H t2 t50 fun _ H =>
  ob (allM (fun o => o) [aLoad (.some 3) H t2]) fun vs => some (resV vs, H))
noncomputable def S60_4 (call : CallFn) (t0 : AV) (H : AHeap) : R :=
  pNew [(.int .i64 (.ofNat 0)), (.str []), (.int .i64 (.ofNat 0))] H fun t2 H =>
  pO (aIdxS t0 (.int .i64 (.ofNat 0))) H fun t11 H =>
  pC call 121 [t11] H fun t12 H =>
  onBool t12 (pC call 119 [t0, (.fn 122 [] [])] H fun t15 H =>
  pO (aSliceS t0 .none (.some t15)) H fun t16 H =>
  pO (someAgg (aFill [(.int .i64 (.ofNat 0)), (.str []), (.int .i64 (.ofNat 0))] [(0, 1, (.int .i64 (.ofNat 1))), (1, 1, t16)])) H fun t17 H =>
  pNew [(.int .i64 (.ofNat 0)), (.str []), (.int .i64 (.ofNat 0))] H fun t3 H =>
  stK 3 H t3 t17 fun _ H =>
  pFa 1 t3 H fun t18 H =>
  ldK .none H t18 fun t19 H =>
  pC call 123 [t19] H fun t20 H =>
  onBool t20 (pFa 0 t3 H fun t21 H =>
  stK 1 H t21 (.int .i64 (.ofNat 2)) fun _ H =>
  S60_2 call t2 t3 H) (S60_2 call t2 t3 H)) (pO (aIdxS t0 (.int .i64 (.ofNat 0))) H fun t30 H =>
  pC call 124 [t30] H fun t31 H =>
  onBool t31 (pC call 119 [t0, (.fn 124 [] [])] H fun t34 H =>
  pO (aSliceS t0 .none (.some t34)) H fun t35 H =>
  pO (someAgg (aFill [(.int .i64 (.ofNat 0)), (.str []), (.int .i64 (.ofNat 0))] [(0, 1, (.int .i64 (.ofNat 3))), (1, 1, t35)])) H fun t36 H =>
  pNew [(.int .i64 (.ofNat 0)), (.str []), (.int .i64 (.ofNat 0))] H fun t4 H =>
  stK 3 H t4 t36 fun _ H =>
  pFa 1 t4 H fun t38 H =>
  ldK .none H t38 fun t39 H =>
  pC call 125 [t39, (.int .i64 (.ofNat 10)), (.int .i64 (.ofNat 64))] H fun t40 H =>
  pExt t40 0 H fun t41 H =>
  pExt t40 1 H fun t42 H =>
  pO (aEq true .ifc t42 .nilif) H fun t44 H =>
  guardA t44 false (pGtr t41 (.int .u64 (.ofNat 4611686018427387903)) H fun t47 H =>
  S60_3 call t2 t4 t44 t47 H) (S60_3 call t2 t4 t44 U H)) (pC call 126 [] H fun t51 H =>
  pO (aLen .sl H t51) H fun t52 H =>
  S60_1 call 1000000 t0 t2 t51 t52 (.int .i64 (.ofNat 0)) H))
noncomputable def S60 : Ff := ⟨fun call l H => argA1 (fun t0 => S60_4 call t0 H) l⟩
/- (*gantline/parse.parser).node -/
noncomputable def S61_0 (call : CallFn) (t0 t1 : AV) (H : AHeap) : R :=
  pNew [(.str []), (.str []), (.int .i64 (.ofNat 0)), .nilsl] H fun t4 H =>
  pC call 62 [t0] H fun t7 H =>
  pO (aFld 2 .none t7) H fun t8 H =>
  pO (someAgg (aFill [(.str []), (.str []), (.int .i64 (.ofNat 0)), .nilsl] [(0, 1, t1), (2, 1, t8)])) H fun t9 H =>
  stK 4 H t4 t9 fun _ H =>
  ob (allM (fun o => o) [aLoad (.some 4) H t4]) fun vs => some (resV vs, H)
noncomputable def S61 : Ff := ⟨fun call l H => argA2 (fun t0 t1 => S61_0 call t0 t1 H) l⟩
/- (*gantline/parse.parser).word -/
noncomputable def S62_0 (_ : CallFn) (t0 : AV) (H : AHeap) : R :=
  pNew [(.int .i64 (.ofNat 0)), (.str []), (.int .i64 (.ofNat 0))] H fun t2 H =>
  pO (aNil t0) H fun t4 H =>
  pFa 0 t4 H fun t5 H =>
  ldK .none H t5 fun t6 H =>
  pO (aNil t0) H fun t8 H =>
  pFa 1 t8 H fun t9 H =>
  ldK .none H t9 fun t10 H =>
  pIa 3 t6 t10 H fun t11 H =>
  ldK (.some 3) H t11 fun t12 H =>
  stK 3 H t2 t12 fun _ H =>
  ob (allM (fun o => o) [aLoad (.some 3) H t2]) fun vs => some (resV vs, H)
noncomputable def S62 : Ff := ⟨fun call l H => argA1 (fun t0 => S62_0 call t0 H) l⟩
/- (*gantline/parse.parser).decl -/
noncomputable def S63_0 (_ : CallFn) (t2 t3 : AV) (H : AHeap) : R :=
  ldK (.some 4) H t3 fun t63 H =>
  stK 4 H t2 t63 fun _ H =>
  ob (allM (fun o => o) [aLoad (.some 4) H t2]) fun vs => some (resV vs, H)
noncomputable def S63_1 (call : CallFn) (t0 t2 t3 : AV) (H : AHeap) : R :=
  pC call 129 [t0, (.str [125])] H fun _ H =>
  S63_0 call t2 t3 H
noncomputable def S63_3 (call : CallFn) (q0 : AV → AV → AV → AHeap → R) (t0 t2 t3 t24 t28 : AV) (H : AHeap) : R :=
  pPick t24 t28 (.bool false) H fun t29 H =>
  onBool t29 (pFa 3 t3 H fun t30 H =>
  ldK .none H t30 fun t31 H =>
  pC call 131 [t0, (.str [102, 105, 101, 108, 100])] H fun t33 H =>
  andR (andB (ckV (aLoad .none H t30) t31) true) (
  pN (aBsl 4 1 [(.str []), (.str []), (.int .i64 (.ofNat 0)), .nilsl] [(0, 4, t33)]) H fun t34 H =>
  pW (aApp 4 64 H t31 t34) fun t35 H =>
  pFa 3 t3 H fun t36 H =>
  stK 1 H t36 t35 fun _ H =>
  pC call 129 [t0, (.str [59])] H fun _ H =>
  q0 t0 t2 t3 H)) (S63_1 call t0 t2 t3 H)
noncomputable def S63_2 (call : CallFn) (n : Nat) : AV → AV → AV → AHeap → R :=
  Nat.rec (motive := fun _ => AV → AV → AV → AHeap → R) (fun _ _ _ _ => none) (fun _ q0 t0 t2 t3 H => pO (aNil t0) H fun t20 H =>
  pFa 3 t20 H fun t21 H =>
  ldK .none H t21 fun t22 H =>
  pEql t22 (.int .i64 (.ofNat 0)) H fun t23 H =>
  guardA t23 true (pN (aBsl 1 1 [(.str [])] [(0, 1, (.str [125]))]) H fun t26 H =>
  pC call 130 [t0, t26] H fun t27 H =>
  pO (aUn .not t27) H fun t28 H =>
  S63_3 call q0 t0 t2 t3 t23 t28 H) (S63_3 call q0 t0 t2 t3 t23 U H)) n
noncomputable def S63_4 (call : CallFn) (t0 : AV) (H : AHeap) : R :=
  pNew [(.str []), (.str []), (.int .i64 (.ofNat 0)), .nilsl] H fun t2 H =>
  pC call 61 [t0, (.str [])] H fun t6 H =>
  pNew [(.str []), (.str []), (.int .i64 (.ofNat 0)), .nilsl] H fun t3 H =>
  stK 4 H t3 t6 fun _ H =>
  pC call 127 [t0, (.str [115, 116, 114, 117, 99, 116])] H fun t11 H =>
  onBool t11 (pC call 128 [t0] H fun t13 H =>
  pO (aFld 1 .none t13) H fun t14 H =>
  pFa 0 t3 H fun t15 H =>
  stK 1 H t15 (.str [115, 116, 114, 117, 99, 116]) fun _ H =>
  pFa 1 t3 H fun t16 H =>
  stK 1 H t16 t14 fun _ H =>
  pC call 129 [t0, (.str [123])] H fun _ H =>
  S63_2 call 1000000 t0 t2 t3 H) (pC call 127 [t0, (.str [118, 97, 114])] H fun t43 H =>
  onBool t43 (pFa 2 t3 H fun t44 H =>
  ldK .none H t44 fun t45 H =>
  pC call 131 [t0, (.str [103, 108, 111, 98, 97, 108])] H fun t47 H =>
  stK 4 H t3 t47 fun _ H =>
  pFa 2 t3 H fun t49 H =>
  stK 1 H t49 t45 fun _ H =>
  pC call 129 [t0, (.str [59])] H fun _ H =>
  S63_0 call t2 t3 H) (pC call 127 [t0, (.str [102, 117, 110, 99])] H fun t54 H =>
  onBool t54 (pC call 128 [t0] H fun t56 H =>
  pO (aFld 1 .none t56) H fun t57 H =>
  pFa 0 t3 H fun t58 H =>
  stK 1 H t58 (.str [102, 117, 110, 99]) fun _ H =>
  pFa 1 t3 H fun t59 H =>
  stK 1 H t59 t57 fun _ H =>
  pC call 132 [t0] H fun t61 H =>
  pFa 3 t3 H fun t62 H =>
  stK 1 H t62 t61 fun _ H =>
  S63_0 call t2 t3 H) (pC call 133 [t0, (.int .i64 (.ofNat 6))] H fun _ H =>
  S63_0 call t2 t3 H)))
noncomputable def S63 : Ff := ⟨fun call l H => argA1 (fun t0 => S63_4 call t0 H) l⟩
/- gantline/tree.Good -/
noncomputable def S64_1 (call : CallFn) (q0 : AV → AV → AV → AV → AHeap → R) (t3 t6 t7 t40 t41 t42 : AV) (H : AHeap) : R :=
  ldK (.some 4) H t6 fun t59 H =>
  pC call 135 [t59, t7] H fun t61 H =>
  pO (aUn .not t61) H fun t62 H =>
  onBool t62 (some ((.bool false), H)) (pAdd t42 (.int .i64 (.ofNat 1)) H fun t63 H =>
  q0 t3 t40 t41 t63 H)
noncomputable def S64_0 (call : CallFn) (n : Nat) : AV → AV → AV → AV → AHeap → R :=
  Nat.rec (motive := fun _ => AV → AV → AV → AV → AHeap → R) (fun _ _ _ _ _ => none) (fun _ q0 t3 t40 t41 t42 H => pLss t42 t41 H fun t43 H =>
  onBool t43 (pIa 4 t40 t42 H fun t45 H =>
  ldK (.some 4) H t45 fun t46 H =>
  pNew [(.str []), (.str []), (.int .i64 (.ofNat 0)), .nilsl] H fun t6 H =>
  stK 4 H t6 t46 fun _ H =>
  pFa 1 t3 H fun t47 H =>
  ldK .none H t47 fun t48 H =>
  pFa 0 t3 H fun t50 H =>
  ldK .none H t50 fun t51 H =>
  pO (aLen .sl H t51) H fun t52 H =>
  pLss t42 t52 H fun t53 H =>
  onBool t53 (pFa 0 t3 H fun t54 H =>
  ldK .none H t54 fun t55 H =>
  pIa 1 t55 t42 H fun t57 H =>
  ldK .none H t57 fun t58 H =>
  S64_1 call q0 t3 t6 t58 t40 t41 t42 H) (S64_1 call q0 t3 t6 t48 t40 t41 t42 H)) (some ((.bool true), H))) n
noncomputable def S64_2 (call : CallFn) (t1 t3 t25 t37 : AV) (H : AHeap) : R :=
  pPick t25 (.bool true) t37 H fun t38 H =>
  onBool t38 (some ((.bool false), H)) (pFa 3 t1 H fun t39 H =>
  ldK .none H t39 fun t40 H =>
  pO (aLen .sl H t40) H fun t41 H =>
  S64_0 call 1000000 t3 t40 t41 (.int .i64 (.ofNat 0)) H)
noncomputable def S64_3 (call : CallFn) (t1 t3 t25 t29 t36 : AV) (H : AHeap) : R :=
  guardA t25 false (pPick t29 t36 (.bool false) H fun t37 H =>
  S64_2 call t1 t3 t25 t37 H) (S64_2 call t1 t3 t25 U H)
noncomputable def S64_4 (call : CallFn) (t1 t3 t25 t29 : AV) (H : AHeap) : R :=
  guardA t29 true (pFa 3 t1 H fun t30 H =>
  ldK .none H t30 fun t31 H =>
  pO (aLen .sl H t31) H fun t32 H =>
  pFa 0 t3 H fun t33 H =>
  ldK .none H t33 fun t34 H =>
  pO (aLen .sl H t34) H fun t35 H =>
  pGtr t32 t35 H fun t36 H =>
  S64_3 call t1 t3 t25 t29 t36 H) (S64_3 call t1 t3 t25 t29 U H)
noncomputable def S64_5 (call : CallFn) (t1 t3 t16 t23 : AV) (H : AHeap) : R :=
  pPick t16 (.bool true) t23 H fun t24 H =>
  guardA t24 false (pFa 1 t3 H fun t26 H =>
  ldK .none H t26 fun t27 H =>
  pEql t27 (.str []) H fun t28 H =>
  S64_4 call t1 t3 t24 t28 H) (S64_4 call t1 t3 t24 U H)
noncomputable def S64_6 (call : CallFn) (t0 : AV) (H : AHeap) : R :=
  pBox t0 H fun t1 H =>
  pFa 0 t1 H fun t9 H =>
  ldK .none H t9 fun t10 H =>
  pC call 134 [t10] H fun t11 H =>
  pExt t11 0 H fun t12 H =>
  pExt t11 1 H fun t13 H =>
  pNew [.nilsl, (.str [])] H fun t3 H =>
  stK 2 H t3 t12 fun _ H =>
  pO (aUn .not t13) H fun t15 H =>
  guardA t15 false (pFa 3 t1 H fun t17 H =>
  ldK .none H t17 fun t18 H =>
  pO (aLen .sl H t18) H fun t19 H =>
  pFa 0 t3 H fun t20 H =>
  ldK .none H t20 fun t21 H =>
  pO (aLen .sl H t21) H fun t22 H =>
  pLss t19 t22 H fun t23 H =>
  S64_5 call t1 t3 t15 t23 H) (S64_5 call t1 t3 t15 U H)
noncomputable def S64 : Ff := ⟨fun call l H => argA1 (fun t0 => S64_6 call t0 H) l⟩
/- slices.ContainsFunc[[]gantline/tree.Node,gantline/tree.Node] -/
noncomputable def S65_0 (call : CallFn) (t0 t1 : AV) (H : AHeap) : R :=
  pC call 67 [t0, t1] H fun t7 H =>
  pGeq t7 (.int .i64 (.ofNat 0)) H fun t8 H =>
  some (t8, H)
noncomputable def S65 : Ff := ⟨fun call l H => argA2 (fun t0 t1 => S65_0 call t0 t1 H) l⟩
/- gantline/check.whole$1 -/
noncomputable def S66_0 (call : CallFn) (t0 : AV) (H : AHeap) : R :=
  pBox t0 H fun t1 H =>
  ldK (.some 4) H t1 fun t3 H =>
  pC call 31 [t3] H fun t4 H =>
  pO (aUn .not t4) H fun t5 H =>
  some (t5, H)
noncomputable def S66 : Ff := ⟨fun call l H => argA1 (fun t0 => S66_0 call t0 H) l⟩
/- slices.IndexFunc[[]gantline/tree.Node,gantline/tree.Node] -/
noncomputable def S67_0 (call : CallFn) (n : Nat) : AV → AV → AV → AV → AHeap → R :=
  Nat.rec (motive := fun _ => AV → AV → AV → AV → AHeap → R) (fun _ _ _ _ _ => none) (fun _ q0 t0 t1 t7 t8 H => pLss t8 t7 H fun t9 H =>
  onBool t9 (pIa 4 t0 t8 H fun t14 H =>
  ldK (.some 4) H t14 fun t15 H =>
  pV call t1 [t15] H fun t16 H =>
  onBool t16 (some (t8, H)) (pAdd t8 (.int .i64 (.ofNat 1)) H fun t18 H =>
  q0 t0 t1 t7 t18 H)) (some ((.int .i64 (.negSucc 0)), H))) n
noncomputable def S67_1 (call : CallFn) (t0 t1 : AV) (H : AHeap) : R :=
  pO (aLen .sl H t0) H fun t7 H =>
  S67_0 call 1000000 t0 t1 t7 (.int .i64 (.ofNat 0)) H
noncomputable def S67 : Ff := ⟨fun call l H => argA2 (fun t0 t1 => S67_1 call t0 t1 H) l⟩
/- (*gantline/check.checker).decl$1 -/
noncomputable def S68_0 (_ : CallFn) (t9 t13 : AV) (H : AHeap) : R :=
  pPick t9 t13 (.bool false) H fun t14 H =>
  some (t14, H)
noncomputable def S68_1 (call : CallFn) (t0 t1 t2 : AV) (H : AHeap) : R :=
  pBox t0 H fun t3 H =>
  pFa 0 t3 H fun t5 H =>
  ldK .none H t5 fun t6 H =>
  ldK .none H t1 fun t7 H =>
  pEql t6 t7 H fun t8 H =>
  guardA t8 true (pFa 1 t3 H fun t10 H =>
  ldK .none H t10 fun t11 H =>
  ldK .none H t2 fun t12 H =>
  pEql t11 t12 H fun t13 H =>
  S68_0 call t8 t13 H) (S68_0 call t8 U H)
noncomputable def S68 : Ff := ⟨fun call l H => argA3 (fun t0 t1 t2 => S68_1 call t0 t1 t2 H) l⟩
/- (*gantline/check.checker).stmts -/
noncomputable def S71_1 (_ : CallFn) (q0 : AV → AV → AV → AV → AHeap → R) (t0 t7 t8 t9 : AV) (H : AHeap) : R :=
  pAdd t9 (.int .i64 (.ofNat 1)) H fun t21 H =>
  q0 t0 t7 t8 t21 H
noncomputable def S71_0 (call : CallFn) (n : Nat) : AV → AV → AV → AV → AHeap → R :=
  Nat.rec (motive := fun _ => AV → AV → AV → AV → AHeap → R) (fun _ _ _ _ _ => none) (fun _ q0 t0 t7 t8 t9 H => pLss t9 t8 H fun t10 H =>
  onBool t10 (pIa 4 t7 t9 H fun t11 H =>
  ldK (.some 4) H t11 fun t12 H =>
  pNew [(.str []), (.str []), (.int .i64 (.ofNat 0)), .nilsl] H fun t5 H =>
  stK 4 H t5 t12 fun _ H =>
  pO (aNil t0) H fun t14 H =>
  pFa 4 t14 H fun t15 H =>
  ldK .none H t15 fun t16 H =>
  pO (aUn .not t16) H fun t17 H =>
  onBool t17 (ldK (.some 4) H t5 fun t19 H =>
  pC call 136 [t0, t19] H fun _ H =>
  S71_1 call q0 t0 t7 t8 t9 H) (S71_1 call q0 t0 t7 t8 t9 H)) (some (.tup [], H))) n
noncomputable def S71_2 (call : CallFn) (t0 t1 : AV) (H : AHeap) : R :=
  pBox t1 H fun t3 H =>
  pFa 3 t3 H fun t6 H =>
  ldK .none H t6 fun t7 H =>
  pO (aLen .sl H t7) H fun t8 H =>
  S71_0 call 1000000 t0 t7 t8 (.int .i64 (.ofNat 0)) H
noncomputable def S71 : Ff := ⟨fun call l H => argA2 (fun t0 t1 => S71_2 call t0 t1 H) l⟩
/- (*gantline/lower.builder).stmts -/
noncomputable def S77_0 (_ : CallFn) (t28 t44 t50 : AV) (H : AHeap) : R :=
  pPick t44 (.bool true) t50 H fun t51 H =>
  pO (aNil t28) H fun t52 H =>
  pFa 10 t52 H fun t53 H =>
  stK 1 H t53 t51 fun _ H =>
  some (.tup [], H)
noncomputable def S77_1 (call : CallFn) (t28 t44 t49 : AV) (H : AHeap) : R :=
  guardA t44 false (pGtr t49 (.int .i64 (.ofNat 248)) H fun t50 H =>
  S77_0 call t28 t44 t50 H) (S77_0 call t28 t44 U H)
noncomputable def S77_2 (call : CallFn) (t28 t44 t48 : AV) (H : AHeap) : R :=
  guardA t44 false (pO (aLen .sl H t48) H fun t49 H =>
  S77_1 call t28 t44 t49 H) (S77_1 call t28 t44 U H)
noncomputable def S77_3 (call : CallFn) (t28 t44 t47 : AV) (H : AHeap) : R :=
  guardA t44 false (ldK .none H t47 fun t48 H =>
  S77_2 call t28 t44 t48 H) (S77_2 call t28 t44 U H)
noncomputable def S77_4 (call : CallFn) (t28 t44 t46 : AV) (H : AHeap) : R :=
  guardA t44 false (pFa 2 t46 H fun t47 H =>
  S77_3 call t28 t44 t47 H) (S77_3 call t28 t44 U H)
noncomputable def S77_5 (call : CallFn) (t28 t44 t45 : AV) (H : AHeap) : R :=
  guardA t44 false (pO (aNil t45) H fun t46 H =>
  S77_4 call t28 t44 t46 H) (S77_4 call t28 t44 U H)
noncomputable def S77_6 (call : CallFn) (t0 t28 t36 t42 : AV) (H : AHeap) : R :=
  pPick t36 (.bool true) t42 H fun t43 H =>
  guardA t43 false (S77_5 call t28 t43 t0 H) (S77_5 call t28 t43 U H)
noncomputable def S77_7 (call : CallFn) (t0 t28 t36 t41 : AV) (H : AHeap) : R :=
  guardA t36 false (pGtr t41 (.int .i64 (.ofNat 2048)) H fun t42 H =>
  S77_6 call t0 t28 t36 t42 H) (S77_6 call t0 t28 t36 U H)
noncomputable def S77_8 (call : CallFn) (t0 t28 t36 t40 : AV) (H : AHeap) : R :=
  guardA t36 false (pO (aLen .sl H t40) H fun t41 H =>
  S77_7 call t0 t28 t36 t41 H) (S77_7 call t0 t28 t36 U H)
noncomputable def S77_9 (call : CallFn) (t0 t28 t36 t39 : AV) (H : AHeap) : R :=
  guardA t36 false (ldK .none H t39 fun t40 H =>
  S77_8 call t0 t28 t36 t40 H) (S77_8 call t0 t28 t36 U H)
noncomputable def S77_10 (call : CallFn) (t0 t28 t36 t38 : AV) (H : AHeap) : R :=
  guardA t36 false (pFa 4 t38 H fun t39 H =>
  S77_9 call t0 t28 t36 t39 H) (S77_9 call t0 t28 t36 U H)
noncomputable def S77_11 (call : CallFn) (t0 t28 t36 t37 : AV) (H : AHeap) : R :=
  guardA t36 false (pO (aNil t37) H fun t38 H =>
  S77_10 call t0 t28 t36 t38 H) (S77_10 call t0 t28 t36 U H)
noncomputable def S77_12 (call : CallFn) (t0 : AV) (H : AHeap) : R :=
  pO (aNil t0) H fun t26 H =>
  pFa 0 t26 H fun t27 H =>
  ldK .none H t27 fun t28 H =>
  pO (aNil t0) H fun t30 H =>
  pFa 0 t30 H fun t31 H =>
  ldK .none H t31 fun t32 H =>
  pO (aNil t32) H fun t33 H =>
  pFa 10 t33 H fun t34 H =>
  ldK .none H t34 fun t35 H =>
  guardA t35 false (S77_11 call t0 t28 t35 t0 H) (S77_11 call t0 t28 t35 U H)
noncomputable def S77_14 (_ : CallFn) (q0 : AV → AV → AV → AV → AHeap → R) (t0 t7 t8 t9 : AV) (H : AHeap) : R :=
  pAdd t9 (.int .i64 (.ofNat 1)) H fun t24 H =>
  q0 t0 t7 t8 t24 H
noncomputable def S77_13 (call : CallFn) (n : Nat) : AV → AV → AV → AV → AHeap → R :=
  Nat.rec (motive := fun _ => AV → AV → AV → AV → AHeap → R) (fun _ _ _ _ _ => none) (fun _ q0 t0 t7 t8 t9 H => pLss t9 t8 H fun t10 H =>
  onBool t10 (pIa 4 t7 t9 H fun t11 H =>
  ldK (.some 4) H t11 fun t12 H =>
  pNew [(.str []), (.str []), (.int .i64 (.ofNat 0)), .nilsl] H fun t5 H =>
  stK 4 H t5 t12 fun _ H =>
  pO (aNil t0) H fun t14 H =>
  pFa 0 t14 H fun t15 H =>
  ldK .none H t15 fun t16 H =>
  pO (aNil t16) H fun t17 H =>
  pFa 10 t17 H fun t18 H =>
  ldK .none H t18 fun t19 H =>
  pO (aUn .not t19) H fun t20 H =>
  onBool t20 (ldK (.some 4) H t5 fun t22 H =>
  pC call 139 [t0, t22] H fun _ H =>
  S77_14 call q0 t0 t7 t8 t9 H) (S77_14 call q0 t0 t7 t8 t9 H)) (S77_12 call t0 H)) n
noncomputable def S77_15 (call : CallFn) (t0 t1 : AV) (H : AHeap) : R :=
  pBox t1 H fun t3 H =>
  pFa 3 t3 H fun t6 H =>
  ldK .none H t6 fun t7 H =>
  pO (aLen .sl H t7) H fun t8 H =>
  S77_13 call 1000000 t0 t7 t8 (.int .i64 (.ofNat 0)) H
noncomputable def S77 : Ff := ⟨fun call l H => argA2 (fun t0 t1 => S77_15 call t0 t1 H) l⟩
/- (*gantline/lower.builder).emit -/
noncomputable def S78_0 (_ : CallFn) (t0 t1 : AV) (H : AHeap) : R :=
  pBox t1 H fun t3 H =>
  pO (aNil t0) H fun t7 H =>
  pFa 4 t7 H fun t8 H =>
  ldK .none H t8 fun t9 H =>
  ldK (.some 5) H t3 fun t10 H =>
  pN (aBsl 5 1 [(.int .i64 (.ofNat 0)), (.int .i64 (.ofNat 0)), (.int .i64 (.ofNat 0)), (.int .i64 (.ofNat 0)), (.int .i64 (.ofNat 0))] [(0, 5, t10)]) H fun t11 H =>
  pW (aApp 5 40 H t9 t11) fun t12 H =>
  pO (aNil t0) H fun t13 H =>
  pFa 4 t13 H fun t14 H =>
  stK 1 H t14 t12 fun _ H =>
  pO (aNil t0) H fun t16 H =>
  pFa 4 t16 H fun t17 H =>
  ldK .none H t17 fun t18 H =>
  pO (aLen .sl H t18) H fun t19 H =>
  pSub t19 (.int .i64 (.ofNat 1)) H fun t20 H =>
  some (t20, H)
noncomputable def S78 : Ff := ⟨fun call l H => argA2 (fun t0 t1 => S78_0 call t0 t1 H) l⟩
/- gantline/lower.result -/
noncomputable def S79_0 (call : CallFn) (t0 : AV) (H : AHeap) : R :=
  pBox t0 H fun t1 H =>
  pFa 0 t1 H fun t4 H =>
  ldK .none H t4 fun t5 H =>
  pEql t5 (.str [110, 111, 110, 101]) H fun t6 H =>
  onBool t6 (some ((.int .i64 (.ofNat 0)), H)) (ldK (.some 4) H t1 fun t8 H =>
  pC call 73 [t8] H fun t9 H =>
  onBool t9 (some ((.int .i64 (.ofNat 2)), H)) (some ((.int .i64 (.ofNat 1)), H)))
noncomputable def S79 : Ff := ⟨fun call l H => argA1 (fun t0 => S79_0 call t0 H) l⟩
/- gantline/verify.Without -/
noncomputable def S80_0 (_ : CallFn) (t4 : AV) (H : AHeap) : R :=
  pO (someAgg (aFill [(.int .i64 (.ofNat 0)), (.int .i64 (.ofNat 0)), (.int .i64 (.ofNat 0))] [])) H fun t92 H =>
  stK 3 H t4 t92 fun _ H =>
  ob (allM (fun o => o) [aLoad (.some 3) H t4, some (.bool true)]) fun vs => some (resV vs, H)
noncomputable def S80_2 (_ : CallFn) (q0 : AV → AV → AV → AV → AV → AV → AV → AHeap → R) (t1 t2 t4 t9 t41 t42 t43 : AV) (H : AHeap) : R :=
  pAdd t43 (.int .i64 (.ofNat 1)) H fun t91 H =>
  q0 t1 t2 t4 t9 t41 t42 t91 H
noncomputable def S80_4 (_ : CallFn) (q1 : AV → AV → AV → AV → AV → AV → AV → AV → AV → AV → AV → AV → AHeap → R) (t1 t2 t4 t9 t10 t12 t41 t42 t43 t57 t58 t59 : AV) (H : AHeap) : R :=
  pAdd t59 (.int .i64 (.ofNat 1)) H fun t90 H =>
  q1 t1 t2 t4 t9 t10 t12 t41 t42 t43 t57 t58 t90 H
noncomputable def S80_6 (_ : CallFn) (q2 : AV → AV → AV → AV → AV → AV → AV → AV → AV → AV → AV → AV → AV → AV → AHeap → R) (t1 t2 t4 t9 t10 t12 t13 t15 t41 t42 t43 t57 t58 t59 t80 t84 : AV) (H : AHeap) : R :=
  pPick t80 t84 (.bool false) H fun t85 H =>
  onBool t85 (pO (someAgg (aFill [(.int .i64 (.ofNat 0)), (.int .i64 (.ofNat 0)), (.int .i64 (.ofNat 0))] [(0, 1, t10), (1, 1, t13), (2, 1, t15)])) H fun t89 H =>
  stK 3 H t4 t89 fun _ H =>
  ob (allM (fun o => o) [aLoad (.some 3) H t4, some (.bool false)]) fun vs => some (resV vs, H)) (pAdd t15 (.int .i64 (.ofNat 1)) H fun t75 H =>
  q2 t1 t2 t4 t9 t10 t12 t13 t75 t41 t42 t43 t57 t58 t59 H)
noncomputable def S80_5 (call : CallFn) (q1 : AV → AV → AV → AV → AV → AV → AV → AV → AV → AV → AV → AV → AHeap → R) (n : Nat) : AV → AV → AV → AV → AV → AV → AV → AV → AV → AV → AV → AV → AV → AV → AHeap → R :=
  Nat.rec (motive := fun _ => AV → AV → AV → AV → AV → AV → AV → AV → AV → AV → AV → AV → AV → AV → AHeap → R) (fun _ _ _ _ _ _ _ _ _ _ _ _ _ _ _ => none) (fun _ q2 t1 t2 t4 t9 t10 t12 t13 t15 t41 t42 t43 t57 t58 t59 H => pLeq t15 (.int .i64 (.ofNat 10)) H fun t73 H =>
  onBool t73 (pC call 142 [t1, t15] H fun t78 H =>
  pO (aUn .not t78) H fun t79 H =>
  guardA t79 true (pC call 143 [t12, t15] H fun t83 H =>
  pO (aUn .not t83) H fun t84 H =>
  S80_6 call q2 t1 t2 t4 t9 t10 t12 t13 t15 t41 t42 t43 t57 t58 t59 t79 t84 H) (S80_6 call q2 t1 t2 t4 t9 t10 t12 t13 t15 t41 t42 t43 t57 t58 t59 t79 U H)) (S80_4 call q1 t1 t2 t4 t9 t10 t12 t41 t42 t43 t57 t58 t59 H)) n
noncomputable def S80_3 (call : CallFn) (q0 : AV → AV → AV → AV → AV → AV → AV → AHeap → R) (n : Nat) : AV → AV → AV → AV → AV → AV → AV → AV → AV → AV → AV → AV → AHeap → R :=
  Nat.rec (motive := fun _ => AV → AV → AV → AV → AV → AV → AV → AV → AV → AV → AV → AV → AHeap → R) (fun _ _ _ _ _ _ _ _ _ _ _ _ _ => none) (fun _ q1 t1 t2 t4 t9 t10 t12 t41 t42 t43 t57 t58 t59 H => pLss t59 t58 H fun t60 H =>
  onBool t60 (pIa 5 t57 t59 H fun t62 H =>
  ldK (.some 5) H t62 fun t63 H =>
  pNew [(.int .i64 (.ofNat 0)), (.int .i64 (.ofNat 0)), (.int .i64 (.ofNat 0)), (.int .i64 (.ofNat 0)), (.int .i64 (.ofNat 0))] H fun t14 H =>
  stK 5 H t14 t63 fun _ H =>
  ldK (.some 5) H t14 fun t67 H =>
  pO (aNil t12) H fun t68 H =>
  pFa 16 t68 H fun t69 H =>
  stK 1 H t69 t59 fun _ H =>
  andR (andB (ckV (aLoad (.some 5) H t14) t67) true) (
  pO (aNil t12) H fun t70 H =>
  pFa 17 t70 H fun t71 H =>
  stK 5 H t71 t67 fun _ H =>
  S80_5 call q1 1000000 t1 t2 t4 t9 t10 t12 t59 (.int .i64 (.ofNat 4)) t41 t42 t43 t57 t58 t59 H)) (S80_2 call q0 t1 t2 t4 t9 t41 t42 t43 H)) n
noncomputable def S80_1 (call : CallFn) (n : Nat) : AV → AV → AV → AV → AV → AV → AV → AHeap → R :=
  Nat.rec (motive := fun _ => AV → AV → AV → AV → AV → AV → AV → AHeap → R) (fun _ _ _ _ _ _ _ _ => none) (fun _ q0 t1 t2 t4 t9 t41 t42 t43 H => pLss t43 t42 H fun t44 H =>
  onBool t44 (pIa 7 t41 t43 H fun t46 H =>
  ldK (.some 7) H t46 fun t47 H =>
  pNew [(.int .i64 (.ofNat 0)), (.int .i64 (.ofNat 0)), (.int .i64 (.ofNat 0)), (.int .i64 (.ofNat 0)), .nilsl, .nilsl, .nilsl] H fun t11 H =>
  stK 7 H t11 t47 fun _ H =>
  ldK (.some 6) H t2 fun t48 H =>
  ldK (.some 7) H t11 fun t49 H =>
  ldK (.some 6) H t2 fun t50 H =>
  ldK (.some 7) H t11 fun t51 H =>
  pC call 86 [t50, t51] H fun t52 H =>
  andR (andB (ckV (aLoad (.some 6) H t2) t48) (andB (ckV (aLoad (.some 7) H t11) t49) true)) (
  pO (someAgg (aFill [.nilsl, .nilsl, .nilsl, .nilsl, .nilsl, (.int .i64 (.ofNat 0)), (.int .i64 (.ofNat 0)), (.int .i64 (.ofNat 0)), (.int .i64 (.ofNat 0)), (.int .i64 (.ofNat 0)), .nilsl, .nilsl, .nilsl, .nilsl, .nilsl, .nilsl, (.int .i64 (.ofNat 0)), (.int .i64 (.ofNat 0)), (.int .i64 (.ofNat 0)), (.int .i64 (.ofNat 0)), (.int .i64 (.ofNat 0)), (.int .i64 (.ofNat 0))] [(0, 6, t48), (6, 7, t49), (13, 1, t52), (15, 1, t9)])) H fun t54 H =>
  pBox t54 H fun t55 H =>
  pFa 5 t11 H fun t56 H =>
  ldK .none H t56 fun t57 H =>
  pO (aLen .sl H t57) H fun t58 H =>
  S80_3 call q0 1000000 t1 t2 t4 t9 t43 t55 t41 t42 t43 t57 t58 (.int .i64 (.ofNat 0)) H)) (S80_0 call t4 H)) n
noncomputable def S80_7 (call : CallFn) (t1 t2 t4 : AV) (H : AHeap) : R :=
  pFa 3 t2 H fun t36 H =>
  ldK .none H t36 fun t37 H =>
  pO (aLen .sl H t37) H fun t38 H =>
  pN (aMksl 1 1 [(.bool false)] t38 t38) H fun t39 H =>
  pFa 4 t2 H fun t40 H =>
  ldK .none H t40 fun t41 H =>
  pO (aLen .sl H t41) H fun t42 H =>
  S80_1 call 1000000 t1 t2 t4 t39 t41 t42 (.int .i64 (.ofNat 0)) H
noncomputable def S80_8 (call : CallFn) (n : Nat) : AV → AV → AV → AV → AV → AV → AHeap → R :=
  Nat.rec (motive := fun _ => AV → AV → AV → AV → AV → AV → AHeap → R) (fun _ _ _ _ _ _ _ => none) (fun _ q3 t1 t2 t4 t23 t24 t25 H => pLss t25 t24 H fun t26 H =>
  onBool t26 (pIa 7 t23 t25 H fun t28 H =>
  ldK (.some 7) H t28 fun t29 H =>
  pNew [(.int .i64 (.ofNat 0)), (.int .i64 (.ofNat 0)), (.int .i64 (.ofNat 0)), (.int .i64 (.ofNat 0)), .nilsl, .nilsl, .nilsl] H fun t8 H =>
  stK 7 H t8 t29 fun _ H =>
  ldK (.some 7) H t8 fun t30 H =>
  pC call 141 [t30] H fun t31 H =>
  pO (aUn .not t31) H fun t32 H =>
  onBool t32 (pO (someAgg (aFill [(.int .i64 (.ofNat 0)), (.int .i64 (.ofNat 0)), (.int .i64 (.ofNat 0))] [(0, 1, t25), (1, 1, (.int .i64 (.negSucc 0))), (2, 1, (.int .i64 (.ofNat 3)))])) H fun t34 H =>
  stK 3 H t4 t34 fun _ H =>
  ob (allM (fun o => o) [aLoad (.some 3) H t4, some (.bool false)]) fun vs => some (resV vs, H)) (pAdd t25 (.int .i64 (.ofNat 1)) H fun t35 H =>
  q3 t1 t2 t4 t23 t24 t35 H)) (S80_7 call t1 t2 t4 H)) n
noncomputable def S80_9 (call : CallFn) (t0 t1 : AV) (H : AHeap) : R :=
  pBox t0 H fun t2 H =>
  pNew [(.int .i64 (.ofNat 0)), (.int .i64 (.ofNat 0)), (.int .i64 (.ofNat 0))] H fun t4 H =>
  ldK (.some 6) H t2 fun t16 H =>
  pC call 140 [t16] H fun t17 H =>
  pGtr t17 (.int .i64 (.ofNat 0)) H fun t19 H =>
  onBool t19 (pO (someAgg (aFill [(.int .i64 (.ofNat 0)), (.int .i64 (.ofNat 0)), (.int .i64 (.ofNat 0))] [(0, 1, (.int .i64 (.negSucc 0))), (1, 1, (.int .i64 (.negSucc 0))), (2, 1, t17)])) H fun t21 H =>
  stK 3 H t4 t21 fun _ H =>
  ob (allM (fun o => o) [aLoad (.some 3) H t4, some (.bool false)]) fun vs => some (resV vs, H)) (pFa 4 t2 H fun t22 H =>
  ldK .none H t22 fun t23 H =>
  pO (aLen .sl H t23) H fun t24 H =>
  S80_8 call 1000000 t1 t2 t4 t23 t24 (.int .i64 (.ofNat 0)) H)
noncomputable def S80 : Ff := ⟨fun call l H => argA2 (fun t0 t1 => S80_9 call t0 t1 H) l⟩
/- gantline/emit.clone -/
noncomputable def S81_0 (_ : CallFn) (t1 t2 : AV) (H : AHeap) : R :=
  ldK (.some 6) H t1 fun t60 H =>
  stK 6 H t2 t60 fun _ H =>
  ob (allM (fun o => o) [aLoad (.some 6) H t2]) fun vs => some (resV vs, H)
noncomputable def S81_1 (call : CallFn) (n : Nat) : AV → AV → AV → AV → AHeap → R :=
  Nat.rec (motive := fun _ => AV → AV → AV → AV → AHeap → R) (fun _ _ _ _ _ => none) (fun _ q0 t1 t2 t27 t28 H => pLss t28 t27 H fun t29 H =>
  onBool t29 (pFa 4 t1 H fun t31 H =>
  ldK .none H t31 fun t32 H =>
  pIa 7 t32 t28 H fun t34 H =>
  pO (aNil t34) H fun t39 H =>
  pFa 4 t39 H fun t40 H =>
  ldK .none H t40 fun t41 H =>
  pO (aNil t34) H fun t44 H =>
  pFa 5 t44 H fun t45 H =>
  ldK .none H t45 fun t46 H =>
  pO (aNil t34) H fun t49 H =>
  pFa 6 t49 H fun t50 H =>
  ldK .none H t50 fun t51 H =>
  pC call 145 [t41] H fun t42 H =>
  andR (andB (ckV (aLoad .none H t45) t46) (andB (ckV (aLoad .none H t50) t51) true)) (
  pC call 149 [t46] H fun t47 H =>
  andR (andB (ckV (aLoad .none H t50) t51) true) (
  pC call 150 [t51] H fun t52 H =>
  pO (aNil t34) H fun t53 H =>
  pFa 4 t53 H fun t54 H =>
  stK 1 H t54 t42 fun _ H =>
  pO (aNil t34) H fun t55 H =>
  pFa 5 t55 H fun t56 H =>
  stK 1 H t56 t47 fun _ H =>
  pO (aNil t34) H fun t57 H =>
  pFa 6 t57 H fun t58 H =>
  stK 1 H t58 t52 fun _ H =>
  pAdd t28 (.int .i64 (.ofNat 1)) H fun t59 H =>
  q0 t1 t2 t27 t59 H))) (S81_0 call t1 t2 H)) n
noncomputable def S81_2 (call : CallFn) (t0 : AV) (H : AHeap) : R :=
  pBox t0 H fun t1 H =>
  pNew [.nilsl, .nilsl, .nilsl, .nilsl, .nilsl, (.int .i64 (.ofNat 0))] H fun t2 H =>
  pFa 0 t1 H fun t5 H =>
  ldK .none H t5 fun t6 H =>
  pFa 1 t1 H fun t8 H =>
  ldK .none H t8 fun t9 H =>
  pFa 2 t1 H fun t11 H =>
  ldK .none H t11 fun t12 H =>
  pFa 3 t1 H fun t14 H =>
  ldK .none H t14 fun t15 H =>
  pC call 144 [t6] H fun t7 H =>
  andR (andB (ckV (aLoad .none H t8) t9) (andB (ckV (aLoad .none H t11) t12) (andB (ckV (aLoad .none H t14) t15) true))) (
  pFa 0 t1 H fun t17 H =>
  pC call 145 [t9] H fun t10 H =>
  andR (andB (ckV (aLoad .none H t11) t12) (andB (ckV (aLoad .none H t14) t15) true)) (
  pC call 146 [t12] H fun t13 H =>
  andR (andB (ckV (aLoad .none H t14) t15) true) (
  pC call 147 [t15] H fun t16 H =>
  stK 1 H t17 t7 fun _ H =>
  pFa 1 t1 H fun t18 H =>
  stK 1 H t18 t10 fun _ H =>
  pFa 2 t1 H fun t19 H =>
  stK 1 H t19 t13 fun _ H =>
  pFa 3 t1 H fun t20 H =>
  stK 1 H t20 t16 fun _ H =>
  pFa 4 t1 H fun t21 H =>
  ldK .none H t21 fun t22 H =>
  pC call 148 [t22] H fun t23 H =>
  pFa 4 t1 H fun t24 H =>
  stK 1 H t24 t23 fun _ H =>
  pFa 4 t1 H fun t25 H =>
  ldK .none H t25 fun t26 H =>
  pO (aLen .sl H t26) H fun t27 H =>
  S81_1 call 1000000 t1 t2 t27 (.int .i64 (.ofNat 0)) H)))
noncomputable def S81 : Ff := ⟨fun call l H => argA1 (fun t0 => S81_2 call t0 H) l⟩
end Go.Proofs.YtooindilclphjaaGreatDoor
