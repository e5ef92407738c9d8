/- Plain functions, printed: part 0. -/
import Derived.Test.YtgmcjcgnkdomnaaGreatDoorAdE
import Derived.Test.YtgmcjcgnkdomnaaGreatDoorProg
import Derived.KernelRfl
namespace Go.Proofs.YtgmcjcgnkdomnaaGreatDoor
open Go.Ab
set_option maxRecDepth 100000
/- gantline/gantlinelaw23.LowerKnown -/
noncomputable def S3_0 (_ : CallFn) (t20 t23 : AV) (H : AHeap) : R :=
  pPick t20 t23 (.bool false) H fun t24 H =>
  some (t24, H)
noncomputable def S3_1 (call : CallFn) (H : AHeap) : R :=
  pC call 4 [] H fun t6 H =>
  pO (aUn .not t6) H fun t7 H =>
  onBool t7 (some ((.bool false), H)) (pC call 5 [(.str [102, 117, 110, 99, 32, 109, 97, 105, 110, 40, 41, 32, 123, 32, 112, 114, 105, 110, 116, 32, 116, 114, 117, 101, 59, 32, 125])] H fun t9 H =>
  pExt t9 0 H fun t10 H =>
  pExt t9 1 H fun t11 H =>
  pExt t9 2 H fun _ H =>
  pNew [(.str []), (.str []), (.int .i64 (.ofNat 0)), .nilsl] H fun t1 H =>
  pNew [(.str []), (.str []), (.int .i64 (.ofNat 0)), .nilsl] H fun t2 H =>
  stK 4 H t1 t10 fun _ H =>
  stK 4 H t2 t11 fun _ H =>
  ldK (.some 4) H t1 fun t14 H =>
  pC call 6 [t14] H fun t15 H =>
  pExt t15 0 H fun t16 H =>
  pExt t15 1 H fun t17 H =>
  pNew [.nilsl, .nilsl, .nilsl, .nilsl, .nilsl, (.int .i64 (.ofNat 0))] H fun t4 H =>
  stK 6 H t4 t16 fun _ H =>
  pEql t17 (.int .i64 (.ofNat 7)) H fun t19 H =>
  guardA t19 true (pO (someAgg (aFill [.nilsl, .nilsl, .nilsl, .nilsl, .nilsl, (.int .i64 (.ofNat 0))] [])) H fun t21 H =>
  pC call 7 [t21] H fun t22 H =>
  pO (aUn .not t22) H fun t23 H =>
  S3_0 call t19 t23 H) (S3_0 call t19 U H))
noncomputable def S3 : Ff := ⟨fun call l H => argA0 (S3_1 call H) l⟩
/- gantline/gantlinelaw23.awake -/
noncomputable def S4_0 (_ : CallFn) (t66 t73 : AV) (H : AHeap) : R :=
  pPick t66 t73 (.bool false) H fun t74 H =>
  some (t74, H)
noncomputable def S4_1 (call : CallFn) (t7 t62 t64 : AV) (H : AHeap) : R :=
  pPick t62 t64 (.bool false) H fun t65 H =>
  guardA t65 true (pFa 6 t7 H fun t67 H =>
  ldK .none H t67 fun t68 H =>
  pO (aLen .sl H t68) H fun t69 H =>
  pFa 5 t7 H fun t70 H =>
  ldK .none H t70 fun t71 H =>
  pO (aLen .sl H t71) H fun t72 H =>
  pEql t69 t72 H fun t73 H =>
  S4_0 call t65 t73 H) (S4_0 call t65 U H)
noncomputable def S4_2 (call : CallFn) (t4 t6 t7 : AV) (H : AHeap) : R :=
  pEql t6 (.int .i64 (.ofNat 1)) H fun t61 H =>
  guardA t61 true (ldK (.some 6) H t4 fun t63 H =>
  pC call 7 [t63] H fun t64 H =>
  S4_1 call t7 t61 t64 H) (S4_1 call t7 t61 U H)
noncomputable def S4_4 (_ : CallFn) (q0 : AV → AV → AV → AV → AHeap → R) (t4 t6 t7 t8 : AV) (H : AHeap) : R :=
  pAdd t8 (.int .i64 (.ofNat 1)) H fun t50 H =>
  q0 t4 t6 t7 t50 H
noncomputable def S4_3 (call : CallFn) (n : Nat) : AV → AV → AV → AV → AHeap → R :=
  Nat.rec (motive := fun _ => AV → AV → AV → AV → AHeap → R) (fun _ _ _ _ _ => none) (fun _ q0 t4 t6 t7 t8 H => pFa 5 t7 H fun t45 H =>
  ldK .none H t45 fun t46 H =>
  pO (aLen .sl H t46) H fun t47 H =>
  pLss t8 t47 H fun t48 H =>
  onBool t48 (pFa 5 t7 H fun t51 H =>
  ldK .none H t51 fun t52 H =>
  pIa 5 t52 t8 H fun t54 H =>
  pFa 0 t54 H fun t55 H =>
  ldK .none H t55 fun t56 H =>
  pEql t56 (.int .i64 (.ofNat 42)) H fun t57 H =>
  onBool t57 (pAdd t6 (.int .i64 (.ofNat 1)) H fun t59 H =>
  S4_4 call q0 t4 t59 t7 t8 H) (S4_4 call q0 t4 t6 t7 t8 H)) (S4_2 call t4 t6 t7 H)) n
noncomputable def S4_5 (call : CallFn) (t4 t30 t36 : AV) (H : AHeap) : R :=
  pPick t30 (.bool true) t36 H fun t37 H =>
  onBool t37 (some ((.bool false), H)) (pFa 4 t4 H fun t38 H =>
  ldK .none H t38 fun t39 H =>
  pFa 5 t4 H fun t40 H =>
  ldK .none H t40 fun t41 H =>
  pIa 7 t39 t41 H fun t42 H =>
  ldK (.some 7) H t42 fun t43 H =>
  pNew [(.int .i64 (.ofNat 0)), (.int .i64 (.ofNat 0)), (.int .i64 (.ofNat 0)), (.int .i64 (.ofNat 0)), .nilsl, .nilsl, .nilsl] H fun t7 H =>
  stK 7 H t7 t43 fun _ H =>
  S4_3 call 1000000 t4 (.int .i64 (.ofNat 0)) t7 (.int .i64 (.ofNat 0)) H)
noncomputable def S4_6 (call : CallFn) (t4 t25 t28 : AV) (H : AHeap) : R :=
  pPick t25 (.bool true) t28 H fun t29 H =>
  guardA t29 false (pFa 5 t4 H fun t31 H =>
  ldK .none H t31 fun t32 H =>
  pFa 4 t4 H fun t33 H =>
  ldK .none H t33 fun t34 H =>
  pO (aLen .sl H t34) H fun t35 H =>
  pGeq t32 t35 H fun t36 H =>
  S4_5 call t4 t29 t36 H) (S4_5 call t4 t29 U H)
noncomputable def S4_7 (call : CallFn) (t4 t21 t23 : AV) (H : AHeap) : R :=
  pPick t21 (.bool true) t23 H fun t24 H =>
  guardA t24 false (pFa 5 t4 H fun t26 H =>
  ldK .none H t26 fun t27 H =>
  pLss t27 (.int .i64 (.ofNat 0)) H fun t28 H =>
  S4_6 call t4 t24 t28 H) (S4_6 call t4 t24 U H)
noncomputable def S4_8 (call : CallFn) (H : AHeap) : R :=
  pC call 5 [(.str [102, 117, 110, 99, 32, 109, 97, 105, 110, 40, 41, 32, 123, 32, 112, 114, 105, 110, 116, 32, 49, 59, 32, 125])] H fun t10 H =>
  pExt t10 0 H fun t11 H =>
  pExt t10 1 H fun t12 H =>
  pExt t10 2 H fun t13 H =>
  pNew [(.str []), (.str []), (.int .i64 (.ofNat 0)), .nilsl] H fun t1 H =>
  pNew [(.str []), (.str []), (.int .i64 (.ofNat 0)), .nilsl] H fun t2 H =>
  stK 4 H t1 t11 fun _ H =>
  stK 4 H t2 t12 fun _ H =>
  ldK (.some 4) H t1 fun t15 H =>
  pC call 6 [t15] H fun t16 H =>
  pExt t16 0 H fun t17 H =>
  pExt t16 1 H fun t18 H =>
  pNew [.nilsl, .nilsl, .nilsl, .nilsl, .nilsl, (.int .i64 (.ofNat 0))] H fun t4 H =>
  stK 6 H t4 t17 fun _ H =>
  pO (aUn .not t13) H fun t20 H =>
  guardA t20 false (pNeq t18 (.int .i64 (.ofNat 0)) H fun t23 H =>
  S4_7 call t4 t20 t23 H) (S4_7 call t4 t20 U H)
noncomputable def S4 : Ff := ⟨fun call l H => argA0 (S4_8 call H) l⟩
/- gantline/gantlinelaw23.read -/
noncomputable def S5_0 (call : CallFn) (t0 : AV) (H : AHeap) : R :=
  pNew [(.str []), (.str []), (.int .i64 (.ofNat 0)), .nilsl] H fun t2 H =>
  pNew [(.str []), (.str []), (.int .i64 (.ofNat 0)), .nilsl] H fun t3 H =>
  pC call 8 [t0] H fun t10 H =>
  pExt t10 0 H fun t11 H =>
  pExt t10 1 H fun t12 H =>
  pExt t10 2 H fun _ H =>
  pNew [(.str []), (.str []), (.int .i64 (.ofNat 0)), .nilsl] H fun t5 H =>
  stK 4 H t5 t11 fun _ H =>
  ldK (.some 4) H t5 fun t14 H =>
  ldK (.some 4) H t5 fun t16 H =>
  pLss t12 (.int .i64 (.ofNat 0)) H fun t18 H =>
  pC call 9 [t14] H fun t15 H =>
  andR (andB (ckV (aLoad (.some 4) H t5) t16) true) (
  stK 4 H t2 t15 fun _ H =>
  andR (andB (ckV (aLoad (.some 4) H t5) t16) true) (
  stK 4 H t3 t16 fun _ H =>
  ob (allM (fun o => o) [aLoad (.some 4) H t2, aLoad (.some 4) H t3, some t18]) fun vs => some (resV vs, H)))
noncomputable def S5 : Ff := ⟨fun call l H => argA1 (fun t0 => S5_0 call t0 H) l⟩
/- gantline/lower.Lower -/
noncomputable def S6_0 (_ : CallFn) (t2 t6 t92 t99 : AV) (H : AHeap) : R :=
  pPick t92 (.bool true) t99 H fun t100 H =>
  onBool t100 (pO (someAgg (aFill [.nilsl, .nilsl, .nilsl, .nilsl, .nilsl, (.int .i64 (.ofNat 0))] [])) H fun t101 H =>
  stK 6 H t2 t101 fun _ H =>
  ob (allM (fun o => o) [aLoad (.some 6) H t2, some (.int .i64 (.ofNat 2))]) fun vs => some (resV vs, H)) (pO (aNil t6) H fun t103 H =>
  pFa 4 t103 H fun t104 H =>
  ldK (.some 6) H t104 fun t105 H =>
  stK 6 H t2 t105 fun _ H =>
  ob (allM (fun o => o) [aLoad (.some 6) H t2, some (.int .i64 (.ofNat 0))]) fun vs => some (resV vs, H))
noncomputable def S6_1 (call : CallFn) (t2 t6 t83 t90 : AV) (H : AHeap) : R :=
  pPick t83 (.bool true) t90 H fun t91 H =>
  guardA t91 false (pO (aNil t6) H fun t94 H =>
  pFa 4 t94 H fun t95 H =>
  pFa 3 t95 H fun t96 H =>
  ldK .none H t96 fun t97 H =>
  pO (aLen .sl H t97) H fun t98 H =>
  pGtr t98 (.int .i64 (.ofNat 1024)) H fun t99 H =>
  S6_0 call t2 t6 t91 t99 H) (S6_0 call t2 t6 t91 U H)
noncomputable def S6_2 (call : CallFn) (t2 t6 t74 t81 : AV) (H : AHeap) : R :=
  pPick t74 (.bool true) t81 H fun t82 H =>
  guardA t82 false (pO (aNil t6) H fun t85 H =>
  pFa 4 t85 H fun t86 H =>
  pFa 0 t86 H fun t87 H =>
  ldK .none H t87 fun t88 H =>
  pO (aLen .sl H t88) H fun t89 H =>
  pGtr t89 (.int .i64 (.ofNat 1024)) H fun t90 H =>
  S6_1 call t2 t6 t82 t90 H) (S6_1 call t2 t6 t82 U H)
noncomputable def S6_3 (call : CallFn) (t2 t6 t65 t72 : AV) (H : AHeap) : R :=
  pPick t65 (.bool true) t72 H fun t73 H =>
  guardA t73 false (pO (aNil t6) H fun t76 H =>
  pFa 4 t76 H fun t77 H =>
  pFa 2 t77 H fun t78 H =>
  ldK .none H t78 fun t79 H =>
  pO (aLen .sl H t79) H fun t80 H =>
  pGtr t80 (.int .i64 (.ofNat 4096)) H fun t81 H =>
  S6_2 call t2 t6 t73 t81 H) (S6_2 call t2 t6 t73 U H)
noncomputable def S6_4 (call : CallFn) (t2 t6 t56 t63 : AV) (H : AHeap) : R :=
  pPick t56 (.bool true) t63 H fun t64 H =>
  guardA t64 false (pO (aNil t6) H fun t67 H =>
  pFa 4 t67 H fun t68 H =>
  pFa 1 t68 H fun t69 H =>
  ldK .none H t69 fun t70 H =>
  pO (aLen .sl H t70) H fun t71 H =>
  pGtr t71 (.int .i64 (.ofNat 256)) H fun t72 H =>
  S6_3 call t2 t6 t64 t72 H) (S6_3 call t2 t6 t64 U H)
noncomputable def S6_5 (call : CallFn) (t2 t6 : AV) (H : AHeap) : R :=
  pO (aNil t6) H fun t53 H =>
  pFa 10 t53 H fun t54 H =>
  ldK .none H t54 fun t55 H =>
  guardA t55 false (pO (aNil t6) H fun t58 H =>
  pFa 4 t58 H fun t59 H =>
  pFa 4 t59 H fun t60 H =>
  ldK .none H t60 fun t61 H =>
  pO (aLen .sl H t61) H fun t62 H =>
  pGtr t62 (.int .i64 (.ofNat 128)) H fun t63 H =>
  S6_4 call t2 t6 t55 t63 H) (S6_4 call t2 t6 t55 U H)
noncomputable def S6_7 (call : CallFn) (q0 : AV → AV → AV → AV → AV → AHeap → R) (t2 t6 t8 t9 t32 t33 t34 : AV) (H : AHeap) : R :=
  ldK (.some 4) H t9 fun t49 H =>
  pC call 13 [t6, t8, t49, .nilsl] H fun _ H =>
  pAdd t34 (.int .i64 (.ofNat 1)) H fun t51 H =>
  q0 t2 t6 t32 t33 t51 H
noncomputable def S6_6 (call : CallFn) (n : Nat) : AV → AV → AV → AV → AV → AHeap → R :=
  Nat.rec (motive := fun _ => AV → AV → AV → AV → AV → AHeap → R) (fun _ _ _ _ _ _ => none) (fun _ q0 t2 t6 t32 t33 t34 H => pLss t34 t33 H fun t35 H =>
  onBool t35 (pIa 4 t32 t34 H fun t37 H =>
  ldK (.some 4) H t37 fun t38 H =>
  pNew [(.str []), (.str []), (.int .i64 (.ofNat 0)), .nilsl] H fun t9 H =>
  stK 4 H t9 t38 fun _ H =>
  pFa 1 t9 H fun t39 H =>
  ldK .none H t39 fun t40 H =>
  pEql t40 (.str [109, 97, 105, 110]) H fun t41 H =>
  onBool t41 (pO (aNil t6) H fun t44 H =>
  pFa 4 t44 H fun t45 H =>
  pFa 5 t45 H fun t46 H =>
  stK 1 H t46 t34 fun _ H =>
  S6_7 call q0 t2 t6 t34 t9 t32 t33 t34 H) (S6_7 call q0 t2 t6 t34 t9 t32 t33 t34 H)) (S6_5 call t2 t6 H)) n
noncomputable def S6_8 (call : CallFn) (t0 : AV) (H : AHeap) : R :=
  pBox t0 H fun t1 H =>
  pNew [.nilsl, .nilsl, .nilsl, .nilsl, .nilsl, (.int .i64 (.ofNat 0))] H fun t2 H =>
  ldK (.some 4) H t1 fun t11 H =>
  pC call 10 [t11] H fun t12 H =>
  pExt t12 0 H fun _ H =>
  pExt t12 1 H fun t14 H =>
  pNeq t14 (.int .i64 (.ofNat 0)) H fun t16 H =>
  onBool t16 (pO (someAgg (aFill [.nilsl, .nilsl, .nilsl, .nilsl, .nilsl, (.int .i64 (.ofNat 0))] [])) H fun t17 H =>
  stK 6 H t2 t17 fun _ H =>
  ob (allM (fun o => o) [aLoad (.some 6) H t2, some (.int .i64 (.ofNat 7))]) fun vs => some (resV vs, H)) (ldK (.some 4) H t1 fun t18 H =>
  pO (someAgg (aFill [(.str []), (.str []), (.int .i64 (.ofNat 0)), .nilsl, .nilsl, .nilsl, .nilsl, .nilsl, .nilsl, (.int .i64 (.ofNat 0)), (.bool false)] [(0, 4, t18)])) H fun t19 H =>
  pBox t19 H fun t20 H =>
  pC call 11 [t20] H fun _ H =>
  pC call 12 [t20, (.str [102, 117, 110, 99])] H fun t24 H =>
  pO (aLen .sl H t24) H fun t27 H =>
  pN (aMksl 7 104 [(.int .i64 (.ofNat 0)), (.int .i64 (.ofNat 0)), (.int .i64 (.ofNat 0)), (.int .i64 (.ofNat 0)), .nilsl, .nilsl, .nilsl] t27 t27) H fun t28 H =>
  pO (aNil t20) H fun t29 H =>
  pFa 4 t29 H fun t30 H =>
  pFa 4 t30 H fun t31 H =>
  stK 1 H t31 t28 fun _ H =>
  pO (aLen .sl H t24) H fun t33 H =>
  S6_6 call 1000000 t2 t20 t24 t33 (.int .i64 (.ofNat 0)) H)
noncomputable def S6 : Ff := ⟨fun call l H => argA1 (fun t0 => S6_8 call t0 H) l⟩
/- gantline/lower.Loose -/
noncomputable def S7_0 (call : CallFn) (t0 : AV) (H : AHeap) : R :=
  pBox t0 H fun t1 H =>
  ldK (.some 6) H t1 fun t6 H =>
  pN (aBsl 1 2 [(.int .i64 (.ofNat 0))] [(0, 1, (.int .i64 (.ofNat 8))), (1, 1, (.int .i64 (.ofNat 9)))]) H fun t7 H =>
  pC call 14 [t6, t7] H fun t8 H =>
  pExt t8 0 H fun t9 H =>
  pExt t8 1 H fun t10 H =>
  pNew [(.int .i64 (.ofNat 0)), (.int .i64 (.ofNat 0)), (.int .i64 (.ofNat 0))] H fun t3 H =>
  stK 3 H t3 t9 fun _ H =>
  some (t10, H)
noncomputable def S7 : Ff := ⟨fun call l H => argA1 (fun t0 => S7_0 call t0 H) l⟩
/- gantline/gantlineref19.Parse -/
noncomputable def S8_0 (_ : CallFn) (t2 t7 t8 : AV) (H : AHeap) : R :=
  pO (aNil t7) H fun t53 H =>
  pFa 2 t53 H fun t54 H =>
  ldK .none H t54 fun t55 H =>
  pGeq t55 (.int .i64 (.ofNat 0)) H fun t56 H =>
  onBool t56 (pO (someAgg (aFill [(.str []), (.str []), (.int .i64 (.ofNat 0)), .nilsl] [])) H fun t57 H =>
  pO (aNil t7) H fun t59 H =>
  pFa 2 t59 H fun t60 H =>
  ldK .none H t60 fun t61 H =>
  pO (aNil t7) H fun t63 H =>
  pFa 3 t63 H fun t64 H =>
  ldK .none H t64 fun t65 H =>
  stK 4 H t2 t57 fun _ H =>
  andR (andB (ckV (aLoad .none H t60) t61) (andB (ckV (aLoad .none H t64) t65) true)) (
  ob (allM (fun o => o) [aLoad (.some 4) H t2, some t61, some t65]) fun vs => some (resV vs, H))) (ldK (.some 4) H t8 fun t66 H =>
  stK 4 H t2 t66 fun _ H =>
  ob (allM (fun o => o) [aLoad (.some 4) H t2, some (.int .i64 (.negSucc 0)), some (.bool false)]) fun vs => some (resV vs, H))
noncomputable def S8_2 (call : CallFn) (q0 : AV → AV → AV → AHeap → R) (t2 t7 t8 t31 t43 : AV) (H : AHeap) : R :=
  pPick t31 t43 (.bool false) H fun t44 H =>
  onBool t44 (pFa 3 t8 H fun t45 H =>
  ldK .none H t45 fun t46 H =>
  pC call 16 [t7] H fun t48 H =>
  andR (andB (ckV (aLoad .none H t45) t46) true) (
  pN (aBsl 4 1 [(.str []), (.str []), (.int .i64 (.ofNat 0)), .nilsl] [(0, 4, t48)]) H fun t49 H =>
  pW (aApp 4 64 H t46 t49) fun t50 H =>
  pFa 3 t8 H fun t51 H =>
  stK 1 H t51 t50 fun _ H =>
  q0 t2 t7 t8 H)) (S8_0 call t2 t7 t8 H)
noncomputable def S8_3 (call : CallFn) (q0 : AV → AV → AV → AHeap → R) (t2 t7 t8 t31 t42 : AV) (H : AHeap) : R :=
  guardA t31 true (pNeq t42 (.int .i64 (.ofNat 0)) H fun t43 H =>
  S8_2 call q0 t2 t7 t8 t31 t43 H) (S8_2 call q0 t2 t7 t8 t31 U H)
noncomputable def S8_4 (call : CallFn) (q0 : AV → AV → AV → AHeap → R) (t2 t7 t8 t31 t41 : AV) (H : AHeap) : R :=
  guardA t31 true (ldK .none H t41 fun t42 H =>
  S8_3 call q0 t2 t7 t8 t31 t42 H) (S8_3 call q0 t2 t7 t8 t31 U H)
noncomputable def S8_5 (call : CallFn) (q0 : AV → AV → AV → AHeap → R) (t2 t7 t8 t31 t40 : AV) (H : AHeap) : R :=
  guardA t31 true (pFa 0 t40 H fun t41 H =>
  S8_4 call q0 t2 t7 t8 t31 t41 H) (S8_4 call q0 t2 t7 t8 t31 U H)
noncomputable def S8_6 (call : CallFn) (q0 : AV → AV → AV → AHeap → R) (t2 t7 t8 t31 t35 t39 : AV) (H : AHeap) : R :=
  guardA t31 true (pIa 3 t35 t39 H fun t40 H =>
  S8_5 call q0 t2 t7 t8 t31 t40 H) (S8_5 call q0 t2 t7 t8 t31 U H)
noncomputable def S8_7 (call : CallFn) (q0 : AV → AV → AV → AHeap → R) (t2 t7 t8 t31 t35 t38 : AV) (H : AHeap) : R :=
  guardA t31 true (ldK .none H t38 fun t39 H =>
  S8_6 call q0 t2 t7 t8 t31 t35 t39 H) (S8_6 call q0 t2 t7 t8 t31 t35 U H)
noncomputable def S8_8 (call : CallFn) (q0 : AV → AV → AV → AHeap → R) (t2 t7 t8 t31 t35 t37 : AV) (H : AHeap) : R :=
  guardA t31 true (pFa 1 t37 H fun t38 H =>
  S8_7 call q0 t2 t7 t8 t31 t35 t38 H) (S8_7 call q0 t2 t7 t8 t31 t35 U H)
noncomputable def S8_9 (call : CallFn) (q0 : AV → AV → AV → AHeap → R) (t2 t7 t8 t31 t35 t36 : AV) (H : AHeap) : R :=
  guardA t31 true (pO (aNil t36) H fun t37 H =>
  S8_8 call q0 t2 t7 t8 t31 t35 t37 H) (S8_8 call q0 t2 t7 t8 t31 t35 U H)
noncomputable def S8_10 (call : CallFn) (q0 : AV → AV → AV → AHeap → R) (t2 t7 t8 t31 t35 : AV) (H : AHeap) : R :=
  guardA t31 true (S8_9 call q0 t2 t7 t8 t31 t35 t7 H) (S8_9 call q0 t2 t7 t8 t31 t35 U H)
noncomputable def S8_11 (call : CallFn) (q0 : AV → AV → AV → AHeap → R) (t2 t7 t8 t31 t34 : AV) (H : AHeap) : R :=
  guardA t31 true (ldK .none H t34 fun t35 H =>
  S8_10 call q0 t2 t7 t8 t31 t35 H) (S8_10 call q0 t2 t7 t8 t31 U H)
noncomputable def S8_12 (call : CallFn) (q0 : AV → AV → AV → AHeap → R) (t2 t7 t8 t31 t33 : AV) (H : AHeap) : R :=
  guardA t31 true (pFa 0 t33 H fun t34 H =>
  S8_11 call q0 t2 t7 t8 t31 t34 H) (S8_11 call q0 t2 t7 t8 t31 U H)
noncomputable def S8_13 (call : CallFn) (q0 : AV → AV → AV → AHeap → R) (t2 t7 t8 t31 t32 : AV) (H : AHeap) : R :=
  guardA t31 true (pO (aNil t32) H fun t33 H =>
  S8_12 call q0 t2 t7 t8 t31 t33 H) (S8_12 call q0 t2 t7 t8 t31 U H)
noncomputable def S8_1 (call : CallFn) (n : Nat) : AV → AV → AV → AHeap → R :=
  Nat.rec (motive := fun _ => AV → AV → AV → AHeap → R) (fun _ _ _ _ => none) (fun _ q0 t2 t7 t8 H => pO (aNil t7) H fun t27 H =>
  pFa 2 t27 H fun t28 H =>
  ldK .none H t28 fun t29 H =>
  pLss t29 (.int .i64 (.ofNat 0)) H fun t30 H =>
  guardA t30 true (S8_13 call q0 t2 t7 t8 t30 t7 H) (S8_13 call q0 t2 t7 t8 t30 U H)) n
noncomputable def S8_14 (call : CallFn) (t0 : AV) (H : AHeap) : R :=
  pNew [(.str []), (.str []), (.int .i64 (.ofNat 0)), .nilsl] H fun t2 H =>
  pC call 15 [t0] H fun t11 H =>
  pExt t11 0 H fun t12 H =>
  pExt t11 1 H fun t13 H =>
  pGeq t13 (.int .i64 (.ofNat 0)) H fun t15 H =>
  onBool t15 (pO (someAgg (aFill [(.str []), (.str []), (.int .i64 (.ofNat 0)), .nilsl] [])) H fun t16 H =>
  stK 4 H t2 t16 fun _ H =>
  ob (allM (fun o => o) [aLoad (.some 4) H t2, some t13, some (.bool false)]) fun vs => some (resV vs, H)) (pO (someAgg (aFill [.nilsl, (.int .i64 (.ofNat 0)), (.int .i64 (.ofNat 0)), (.bool false), (.int .i64 (.ofNat 0))] [(0, 1, t12), (2, 1, (.int .i64 (.negSucc 0)))])) H fun t19 H =>
  pBox t19 H fun t20 H =>
  pIa 3 t12 (.int .i64 (.ofNat 0)) H fun t22 H =>
  pFa 2 t22 H fun t23 H =>
  ldK .none H t23 fun t24 H =>
  pO (someAgg (aFill [(.str []), (.str []), (.int .i64 (.ofNat 0)), .nilsl] [(0, 1, (.str [112, 114, 111, 103, 114, 97, 109])), (2, 1, t24)])) H fun t25 H =>
  pNew [(.str []), (.str []), (.int .i64 (.ofNat 0)), .nilsl] H fun t8 H =>
  stK 4 H t8 t25 fun _ H =>
  S8_1 call 1000000 t2 t20 t8 H)
noncomputable def S8 : Ff := ⟨fun call l H => argA1 (fun t0 => S8_14 call t0 H) l⟩
/- gantline/gantlineref17.TreeBack -/
noncomputable def S9_0 (_ : CallFn) (t2 t3 : AV) (H : AHeap) : R :=
  ldK (.some 4) H t3 fun t30 H =>
  stK 4 H t2 t30 fun _ H =>
  ob (allM (fun o => o) [aLoad (.some 4) H t2]) fun vs => some (resV vs, H)
noncomputable def S9_1 (call : CallFn) (n : Nat) : AV → AV → AV → AV → AHeap → R :=
  Nat.rec (motive := fun _ => AV → AV → AV → AV → AHeap → R) (fun _ _ _ _ _ => none) (fun _ q0 t1 t2 t3 t4 H => pFa 3 t1 H fun t13 H =>
  ldK .none H t13 fun t14 H =>
  pO (aLen .sl H t14) H fun t15 H =>
  pLss t4 t15 H fun t16 H =>
  onBool t16 (pFa 3 t3 H fun t19 H =>
  ldK .none H t19 fun t20 H =>
  pFa 3 t1 H fun t21 H =>
  ldK .none H t21 fun t22 H =>
  pIa 4 t22 t4 H fun t24 H =>
  ldK (.some 4) H t24 fun t25 H =>
  pC call 9 [t25] H fun t26 H =>
  andR (andB (ckV (aLoad .none H t19) t20) true) (
  pN (aBsl 4 1 [(.str []), (.str []), (.int .i64 (.ofNat 0)), .nilsl] [(0, 4, t26)]) H fun t27 H =>
  pW (aApp 4 64 H t20 t27) fun t28 H =>
  pFa 3 t3 H fun t29 H =>
  stK 1 H t29 t28 fun _ H =>
  pAdd t4 (.int .i64 (.ofNat 1)) H fun t18 H =>
  q0 t1 t2 t3 t18 H)) (S9_0 call t2 t3 H)) n
noncomputable def S9_2 (call : CallFn) (t0 : AV) (H : AHeap) : R :=
  pBox t0 H fun t1 H =>
  pNew [(.str []), (.str []), (.int .i64 (.ofNat 0)), .nilsl] H fun t2 H =>
  pFa 0 t1 H fun t5 H =>
  ldK .none H t5 fun t6 H =>
  pFa 1 t1 H fun t7 H =>
  ldK .none H t7 fun t8 H =>
  pFa 2 t1 H fun t9 H =>
  ldK .none H t9 fun t10 H =>
  pO (someAgg (aFill [(.str []), (.str []), (.int .i64 (.ofNat 0)), .nilsl] [(0, 1, t6), (1, 1, t8), (2, 1, t10)])) H fun t11 H =>
  pNew [(.str []), (.str []), (.int .i64 (.ofNat 0)), .nilsl] H fun t3 H =>
  stK 4 H t3 t11 fun _ H =>
  S9_1 call 1000000 t1 t2 t3 (.int .i64 (.ofNat 0)) H
noncomputable def S9 : Ff := ⟨fun call l H => argA1 (fun t0 => S9_2 call t0 H) l⟩
/- gantline/check.Check -/
noncomputable def S10_0 (_ : CallFn) (t4 : AV) (H : AHeap) : R :=
  pO (aNil t4) H fun t106 H =>
  pFa 4 t106 H fun t107 H =>
  ldK .none H t107 fun t108 H =>
  onBool t108 (pO (aNil t4) H fun t110 H =>
  pFa 5 t110 H fun t111 H =>
  ldK .none H t111 fun t112 H =>
  some (.tup [t112, (.int .i64 (.ofNat 7))], H)) (some (.tup [(.int .i64 (.ofNat 0)), (.int .i64 (.ofNat 0))], H))
noncomputable def S10_2 (_ : CallFn) (q0 : AV → AV → AV → AV → AHeap → R) (t4 t85 t86 t87 : AV) (H : AHeap) : R :=
  pAdd t87 (.int .i64 (.ofNat 1)) H fun t104 H =>
  q0 t4 t85 t86 t104 H
noncomputable def S10_3 (call : CallFn) (q0 : AV → AV → AV → AV → AHeap → R) (t4 t11 t85 t86 t87 t94 t99 : AV) (H : AHeap) : R :=
  pPick t94 t99 (.bool false) H fun t100 H =>
  onBool t100 (ldK (.some 4) H t11 fun t102 H =>
  pC call 22 [t4, t102] H fun _ H =>
  S10_2 call q0 t4 t85 t86 t87 H) (S10_2 call q0 t4 t85 t86 t87 H)
noncomputable def S10_1 (call : CallFn) (n : Nat) : AV → AV → AV → AV → AHeap → R :=
  Nat.rec (motive := fun _ => AV → AV → AV → AV → AHeap → R) (fun _ _ _ _ _ => none) (fun _ q0 t4 t85 t86 t87 H => pLss t87 t86 H fun t88 H =>
  onBool t88 (pIa 4 t85 t87 H fun t89 H =>
  ldK (.some 4) H t89 fun t90 H =>
  pNew [(.str []), (.str []), (.int .i64 (.ofNat 0)), .nilsl] H fun t11 H =>
  stK 4 H t11 t90 fun _ H =>
  pFa 0 t11 H fun t91 H =>
  ldK .none H t91 fun t92 H =>
  pEql t92 (.str [102, 117, 110, 99]) H fun t93 H =>
  guardA t93 true (pO (aNil t4) H fun t96 H =>
  pFa 4 t96 H fun t97 H =>
  ldK .none H t97 fun t98 H =>
  pO (aUn .not t98) H fun t99 H =>
  S10_3 call q0 t4 t11 t85 t86 t87 t93 t99 H) (S10_3 call q0 t4 t11 t85 t86 t87 t93 U H)) (S10_0 call t4 H)) n
noncomputable def S10_4 (call : CallFn) (t1 t4 t9 t63 t74 t80 : AV) (H : AHeap) : R :=
  pPick t74 t80 (.bool false) H fun t81 H =>
  ldK (.some 4) H t9 fun t82 H =>
  pC call 21 [t63, t81, t82] H fun _ H =>
  pFa 3 t1 H fun t84 H =>
  ldK .none H t84 fun t85 H =>
  pO (aLen .sl H t85) H fun t86 H =>
  S10_1 call 1000000 t4 t85 t86 (.int .i64 (.ofNat 0)) H
noncomputable def S10_5 (call : CallFn) (t1 t4 t9 t63 t74 t79 : AV) (H : AHeap) : R :=
  guardA t74 true (pEql t79 (.str [110, 111, 110, 101]) H fun t80 H =>
  S10_4 call t1 t4 t9 t63 t74 t80 H) (S10_4 call t1 t4 t9 t63 t74 U H)
noncomputable def S10_6 (call : CallFn) (t1 t4 t9 t63 t74 t78 : AV) (H : AHeap) : R :=
  guardA t74 true (ldK .none H t78 fun t79 H =>
  S10_5 call t1 t4 t9 t63 t74 t79 H) (S10_5 call t1 t4 t9 t63 t74 U H)
noncomputable def S10_7 (call : CallFn) (t1 t4 t9 t63 t74 t77 : AV) (H : AHeap) : R :=
  guardA t74 true (pFa 0 t77 H fun t78 H =>
  S10_6 call t1 t4 t9 t63 t74 t78 H) (S10_6 call t1 t4 t9 t63 t74 U H)
noncomputable def S10_8 (call : CallFn) (t1 t4 t9 t63 t74 t76 : AV) (H : AHeap) : R :=
  guardA t74 true (pIa 4 t76 (.int .i64 (.ofNat 1)) H fun t77 H =>
  S10_7 call t1 t4 t9 t63 t74 t77 H) (S10_7 call t1 t4 t9 t63 t74 U H)
noncomputable def S10_9 (call : CallFn) (t1 t4 t9 t63 t74 t75 : AV) (H : AHeap) : R :=
  guardA t74 true (ldK .none H t75 fun t76 H =>
  S10_8 call t1 t4 t9 t63 t74 t76 H) (S10_8 call t1 t4 t9 t63 t74 U H)
noncomputable def S10_10 (call : CallFn) (t1 t4 t7 t9 t63 t65 t72 : AV) (H : AHeap) : R :=
  pPick t65 t72 (.bool false) H fun t73 H =>
  guardA t73 true (pFa 3 t7 H fun t75 H =>
  S10_9 call t1 t4 t9 t63 t73 t75 H) (S10_9 call t1 t4 t9 t63 t73 U H)
noncomputable def S10_11 (call : CallFn) (t1 t4 t7 t9 t63 t65 t71 : AV) (H : AHeap) : R :=
  guardA t65 true (pEql t71 (.int .i64 (.ofNat 0)) H fun t72 H =>
  S10_10 call t1 t4 t7 t9 t63 t65 t72 H) (S10_10 call t1 t4 t7 t9 t63 t65 U H)
noncomputable def S10_12 (call : CallFn) (t1 t4 t7 t9 t63 t65 t70 : AV) (H : AHeap) : R :=
  guardA t65 true (pO (aLen .sl H t70) H fun t71 H =>
  S10_11 call t1 t4 t7 t9 t63 t65 t71 H) (S10_11 call t1 t4 t7 t9 t63 t65 U H)
noncomputable def S10_13 (call : CallFn) (t1 t4 t7 t9 t63 t65 t69 : AV) (H : AHeap) : R :=
  guardA t65 true (ldK .none H t69 fun t70 H =>
  S10_12 call t1 t4 t7 t9 t63 t65 t70 H) (S10_12 call t1 t4 t7 t9 t63 t65 U H)
noncomputable def S10_14 (call : CallFn) (t1 t4 t7 t9 t63 t65 t68 : AV) (H : AHeap) : R :=
  guardA t65 true (pFa 3 t68 H fun t69 H =>
  S10_13 call t1 t4 t7 t9 t63 t65 t69 H) (S10_13 call t1 t4 t7 t9 t63 t65 U H)
noncomputable def S10_15 (call : CallFn) (t1 t4 t7 t9 t63 t65 t67 : AV) (H : AHeap) : R :=
  guardA t65 true (pIa 4 t67 (.int .i64 (.ofNat 0)) H fun t68 H =>
  S10_14 call t1 t4 t7 t9 t63 t65 t68 H) (S10_14 call t1 t4 t7 t9 t63 t65 U H)
noncomputable def S10_16 (call : CallFn) (t1 t4 t7 t9 t63 t65 t66 : AV) (H : AHeap) : R :=
  guardA t65 true (ldK .none H t66 fun t67 H =>
  S10_15 call t1 t4 t7 t9 t63 t65 t67 H) (S10_15 call t1 t4 t7 t9 t63 t65 U H)
noncomputable def S10_17 (call : CallFn) (t1 t4 t7 t8 t9 : AV) (H : AHeap) : R :=
  guardA t8 true (pFa 3 t7 H fun t66 H =>
  S10_16 call t1 t4 t7 t9 t4 t8 t66 H) (S10_16 call t1 t4 t7 t9 t4 t8 U H)
noncomputable def S10_18 (call : CallFn) (t1 t4 : AV) (H : AHeap) : R :=
  ldK (.some 4) H t1 fun t43 H =>
  pC call 19 [t4, t43] H fun _ H =>
  pC call 20 [t4, (.str [102, 117, 110, 99]), (.str [109, 97, 105, 110])] H fun t47 H =>
  pExt t47 0 H fun t48 H =>
  pExt t47 1 H fun t49 H =>
  pNew [(.str []), (.str []), (.int .i64 (.ofNat 0)), .nilsl] H fun t7 H =>
  stK 4 H t7 t48 fun _ H =>
  ldK (.some 4) H t1 fun t50 H =>
  pNew [(.str []), (.str []), (.int .i64 (.ofNat 0)), .nilsl] H fun t9 H =>
  stK 4 H t9 t50 fun _ H =>
  pFa 3 t1 H fun t51 H =>
  ldK .none H t51 fun t52 H =>
  pO (aLen .sl H t52) H fun t53 H =>
  pGtr t53 (.int .i64 (.ofNat 0)) H fun t54 H =>
  onBool t54 (pFa 3 t1 H fun t55 H =>
  ldK .none H t55 fun t56 H =>
  pFa 3 t1 H fun t57 H =>
  ldK .none H t57 fun t58 H =>
  pO (aLen .sl H t58) H fun t59 H =>
  pSub t59 (.int .i64 (.ofNat 1)) H fun t60 H =>
  pIa 4 t56 t60 H fun t61 H =>
  ldK (.some 4) H t61 fun t62 H =>
  stK 4 H t9 t62 fun _ H =>
  S10_17 call t1 t4 t7 t49 t9 H) (S10_17 call t1 t4 t7 t49 t9 H)
noncomputable def S10_20 (_ : CallFn) (q1 : AV → AV → AV → AV → AV → AHeap → R) (t1 t4 t28 t29 t30 : AV) (H : AHeap) : R :=
  pAdd t30 (.int .i64 (.ofNat 1)) H fun t41 H =>
  q1 t1 t4 t28 t29 t41 H
noncomputable def S10_19 (call : CallFn) (n : Nat) : AV → AV → AV → AV → AV → AHeap → R :=
  Nat.rec (motive := fun _ => AV → AV → AV → AV → AV → AHeap → R) (fun _ _ _ _ _ _ => none) (fun _ q1 t1 t4 t28 t29 t30 H => pLss t30 t29 H fun t31 H =>
  onBool t31 (pIa 4 t28 t30 H fun t32 H =>
  ldK (.some 4) H t32 fun t33 H =>
  pNew [(.str []), (.str []), (.int .i64 (.ofNat 0)), .nilsl] H fun t6 H =>
  stK 4 H t6 t33 fun _ H =>
  pFa 0 t6 H fun t34 H =>
  ldK .none H t34 fun t35 H =>
  pEql t35 (.str [115, 116, 114, 117, 99, 116]) H fun t36 H =>
  onBool t36 (pFa 3 t6 H fun t38 H =>
  ldK .none H t38 fun t39 H =>
  pC call 18 [t4, t39] H fun _ H =>
  S10_20 call q1 t1 t4 t28 t29 t30 H) (S10_20 call q1 t1 t4 t28 t29 t30 H)) (S10_18 call t1 t4 H)) n
noncomputable def S10_21 (call : CallFn) (t1 t15 t18 : AV) (H : AHeap) : R :=
  pPick t15 (.bool true) t18 H fun t19 H =>
  onBool t19 (some (.tup [(.int .i64 (.ofNat 0)), (.int .i64 (.ofNat 7))], H)) (ldK (.some 4) H t1 fun t20 H =>
  pO (someAgg (aFill [(.str []), (.str []), (.int .i64 (.ofNat 0)), .nilsl, (.bool false), (.int .i64 (.ofNat 0)), .nilsl, (.int .i64 (.ofNat 0)), (.str []), (.str []), (.int .i64 (.ofNat 0)), .nilsl] [(0, 4, t20)])) H fun t21 H =>
  pBox t21 H fun t22 H =>
  pFa 3 t1 H fun t24 H =>
  ldK .none H t24 fun t25 H =>
  pC call 18 [t22, t25] H fun _ H =>
  pFa 3 t1 H fun t27 H =>
  ldK .none H t27 fun t28 H =>
  pO (aLen .sl H t28) H fun t29 H =>
  S10_19 call 1000000 t1 t22 t28 t29 (.int .i64 (.ofNat 0)) H)
noncomputable def S10_22 (call : CallFn) (t0 : AV) (H : AHeap) : R :=
  pBox t0 H fun t1 H =>
  pFa 0 t1 H fun t12 H =>
  ldK .none H t12 fun t13 H =>
  pNeq t13 (.str [112, 114, 111, 103, 114, 97, 109]) H fun t14 H =>
  guardA t14 false (ldK (.some 4) H t1 fun t16 H =>
  pC call 17 [t16] H fun t17 H =>
  pO (aUn .not t17) H fun t18 H =>
  S10_21 call t1 t14 t18 H) (S10_21 call t1 t14 U H)
noncomputable def S10 : Ff := ⟨fun call l H => argA1 (fun t0 => S10_22 call t0 H) l⟩
/- (*gantline/lower.maker).globals -/
noncomputable def S11_1 (_ : CallFn) (q0 : AV → AV → AV → AV → AHeap → R) (t0 t31 t32 t33 t37 t42 t46 : AV) (H : AHeap) : R :=
  pPick t42 (.bool true) t46 H fun t47 H =>
  pO (aNil t37) H fun t48 H =>
  pFa 10 t48 H fun t49 H =>
  stK 1 H t49 t47 fun _ H =>
  pAdd t33 (.int .i64 (.ofNat 1)) H fun t50 H =>
  q0 t0 t31 t32 t50 H
noncomputable def S11_0 (call : CallFn) (n : Nat) : AV → AV → AV → AV → AHeap → R :=
  Nat.rec (motive := fun _ => AV → AV → AV → AV → AHeap → R) (fun _ _ _ _ _ => none) (fun _ q0 t0 t31 t32 t33 H => pLss t33 t32 H fun t34 H =>
  onBool t34 (pIa 4 t31 t33 H fun t35 H =>
  ldK (.some 4) H t35 fun t36 H =>
  pNew [(.str []), (.str []), (.int .i64 (.ofNat 0)), .nilsl] H fun t5 H =>
  stK 4 H t5 t36 fun _ H =>
  pO (aNil t0) H fun t39 H =>
  pFa 10 t39 H fun t40 H =>
  ldK .none H t40 fun t41 H =>
  guardA t41 false (pFa 3 t5 H fun t43 H =>
  ldK .none H t43 fun t44 H =>
  pO (aLen .sl H t44) H fun t45 H =>
  pGtr t45 (.int .i64 (.ofNat 63)) H fun t46 H =>
  S11_1 call q0 t0 t31 t32 t33 t0 t41 t46 H) (S11_1 call q0 t0 t31 t32 t33 t0 t41 U H)) (some (.tup [], H))) n
noncomputable def S11_2 (call : CallFn) (t0 : AV) (H : AHeap) : R :=
  pC call 12 [t0, (.str [115, 116, 114, 117, 99, 116])] H fun t31 H =>
  pO (aLen .sl H t31) H fun t32 H =>
  S11_0 call 1000000 t0 t31 t32 (.int .i64 (.ofNat 0)) H
noncomputable def S11_3 (call : CallFn) (n : Nat) : AV → AV → AV → AV → AHeap → R :=
  Nat.rec (motive := fun _ => AV → AV → AV → AV → AHeap → R) (fun _ _ _ _ _ => none) (fun _ q1 t0 t7 t8 t9 H => pLss t9 t8 H fun t10 H =>
  onBool t10 (pIa 4 t7 t9 H fun t11 H =>
  ldK (.some 4) H t11 fun t12 H =>
  pNew [(.str []), (.str []), (.int .i64 (.ofNat 0)), .nilsl] H fun t3 H =>
  stK 4 H t3 t12 fun _ H =>
  pO (aNil t0) H fun t15 H =>
  pFa 4 t15 H fun t16 H =>
  pFa 1 t16 H fun t17 H =>
  ldK .none H t17 fun t18 H =>
  pFa 3 t3 H fun t19 H =>
  ldK .none H t19 fun t20 H =>
  pIa 4 t20 (.int .i64 (.ofNat 0)) H fun t21 H =>
  ldK (.some 4) H t21 fun t22 H =>
  pC call 23 [t22] H fun t23 H =>
  andR (andB (ckV (aLoad .none H t17) t18) true) (
  pN (aBsl 1 1 [(.bool false)] [(0, 1, t23)]) H fun t24 H =>
  pW (aApp 1 1 H t18 t24) fun t25 H =>
  pO (aNil t0) H fun t26 H =>
  pFa 4 t26 H fun t27 H =>
  pFa 1 t27 H fun t28 H =>
  stK 1 H t28 t25 fun _ H =>
  pAdd t9 (.int .i64 (.ofNat 1)) H fun t29 H =>
  q1 t0 t7 t8 t29 H)) (S11_2 call t0 H)) n
noncomputable def S11_4 (call : CallFn) (t0 : AV) (H : AHeap) : R :=
  pC call 12 [t0, (.str [103, 108, 111, 98, 97, 108])] H fun t7 H =>
  pO (aLen .sl H t7) H fun t8 H =>
  S11_3 call 1000000 t0 t7 t8 (.int .i64 (.ofNat 0)) H
noncomputable def S11 : Ff := ⟨fun call l H => argA1 (fun t0 => S11_4 call t0 H) l⟩
/- (*gantline/lower.maker).decls -/
noncomputable def S12_1 (_ : CallFn) (q0 : AV → AV → AV → AV → AV → AHeap → R) (t1 t5 t12 t13 t14 : AV) (H : AHeap) : R :=
  pAdd t14 (.int .i64 (.ofNat 1)) H fun t26 H =>
  q0 t1 t5 t12 t13 t26 H
noncomputable def S12_0 (call : CallFn) (n : Nat) : AV → AV → AV → AV → AV → AHeap → R :=
  Nat.rec (motive := fun _ => AV → AV → AV → AV → AV → AHeap → R) (fun _ _ _ _ _ _ => none) (fun _ q0 t1 t5 t12 t13 t14 H => pLss t14 t13 H fun t15 H =>
  onBool t15 (pIa 4 t12 t14 H fun t16 H =>
  ldK (.some 4) H t16 fun t17 H =>
  pNew [(.str []), (.str []), (.int .i64 (.ofNat 0)), .nilsl] H fun t7 H =>
  stK 4 H t7 t17 fun _ H =>
  pFa 0 t7 H fun t18 H =>
  ldK .none H t18 fun t19 H =>
  pEql t19 t1 H fun t21 H =>
  onBool t21 (ldK (.some 4) H t7 fun t23 H =>
  pN (aBsl 4 1 [(.str []), (.str []), (.int .i64 (.ofNat 0)), .nilsl] [(0, 4, t23)]) H fun t24 H =>
  pW (aApp 4 64 H t5 t24) fun t25 H =>
  S12_1 call q0 t1 t25 t12 t13 t14 H) (S12_1 call q0 t1 t5 t12 t13 t14 H)) (some (t5, H))) n
noncomputable def S12_2 (call : CallFn) (t0 t1 : AV) (H : AHeap) : R :=
  pO (aNil t0) H fun t9 H =>
  pFa 0 t9 H fun t10 H =>
  pFa 3 t10 H fun t11 H =>
  ldK .none H t11 fun t12 H =>
  pO (aLen .sl H t12) H fun t13 H =>
  S12_0 call 1000000 t1 .nilsl t12 t13 (.int .i64 (.ofNat 0)) H
noncomputable def S12 : Ff := ⟨fun call l H => argA2 (fun t0 t1 => S12_2 call t0 t1 H) l⟩
/- (*gantline/lower.maker).fn -/
noncomputable def S13_0 (call : CallFn) (t8 t131 t132 t133 t134 t135 t137 t138 t139 t140 t141 t144 t145 t146 t150 t154 t155 t158 : AV) (H : AHeap) : R :=
  ldK .none H t158 fun t159 H =>
  pO (aNil t8) H fun t161 H =>
  pFa 4 t161 H fun t162 H =>
  ldK .none H t162 fun t163 H =>
  pO (aLen .sl H t163) H fun t164 H =>
  pN (aMksl 1 8 [(.int .u64 (.ofNat 0))] t164 t164) H fun t165 H =>
  pC call 29 [t150] H fun t151 H =>
  andR (andB (ckV (aLoad .none H t131) t132) (andB (ckV (aLoad .none H t134) t135) (andB (ckV (aLoad .none H t137) t138) (andB (ckV (aLen .sl H t138) t139) (andB (ckV (aLen .sl H t140) t141) (andB (ckV (aLoad .none H t144) t145) (andB (ckV (aLen .sl H t145) t146) (andB (ckV (aLoad .none H t154) t155) (andB (ckV (aLoad .none H t158) t159) (andB (ckV (aLoad .none H t162) t163) (andB (ckV (aLen .sl H t163) t164) true))))))))))) (
  pO (someAgg (aFill [(.int .i64 (.ofNat 0)), (.int .i64 (.ofNat 0)), (.int .i64 (.ofNat 0)), (.int .i64 (.ofNat 0)), .nilsl, .nilsl, .nilsl] [(0, 1, t139), (1, 1, t141), (2, 1, t146), (3, 1, t151), (4, 1, t155), (5, 1, t159), (6, 1, t165)])) H fun t166 H =>
  pIa 7 t132 t133 H fun t167 H =>
  stK 7 H t167 t166 fun _ H =>
  some (.tup [], H))
noncomputable def S13_1 (call : CallFn) (t0 t1 t3 t6 t8 t100 t121 t124 : AV) (H : AHeap) : R :=
  pPick t121 (.bool true) t124 H fun t125 H =>
  pO (aNil t100) H fun t126 H =>
  pFa 10 t126 H fun t127 H =>
  stK 1 H t127 t125 fun _ H =>
  pO (aNil t0) H fun t129 H =>
  pFa 4 t129 H fun t130 H =>
  pFa 4 t130 H fun t131 H =>
  ldK .none H t131 fun t132 H =>
  pFa 3 t6 H fun t134 H =>
  ldK .none H t134 fun t135 H =>
  pIa 4 t135 (.int .i64 (.ofNat 0)) H fun t136 H =>
  pFa 3 t136 H fun t137 H =>
  ldK .none H t137 fun t138 H =>
  pO (aLen .sl H t138) H fun t139 H =>
  pO (aLen .sl H t3) H fun t141 H =>
  pO (aNil t8) H fun t143 H =>
  pFa 2 t143 H fun t144 H =>
  ldK .none H t144 fun t145 H =>
  pO (aLen .sl H t145) H fun t146 H =>
  pFa 3 t6 H fun t147 H =>
  ldK .none H t147 fun t148 H =>
  pIa 4 t148 (.int .i64 (.ofNat 1)) H fun t149 H =>
  ldK (.some 4) H t149 fun t150 H =>
  pO (aNil t8) H fun t153 H =>
  pFa 2 t153 H fun t154 H =>
  ldK .none H t154 fun t155 H =>
  pO (aNil t8) H fun t157 H =>
  pFa 4 t157 H fun t158 H =>
  S13_0 call t8 t131 t132 t1 t134 t135 t137 t138 t139 t3 t141 t144 t145 t146 t150 t154 t155 t158 H
noncomputable def S13_2 (call : CallFn) (t0 t1 t3 t6 t8 t100 t113 t119 : AV) (H : AHeap) : R :=
  pPick t113 (.bool true) t119 H fun t120 H =>
  guardA t120 false (pO (aLen .sl H t3) H fun t123 H =>
  pGtr t123 (.int .i64 (.ofNat 62)) H fun t124 H =>
  S13_1 call t0 t1 t3 t6 t8 t100 t120 t124 H) (S13_1 call t0 t1 t3 t6 t8 t100 t120 U H)
noncomputable def S13_3 (call : CallFn) (t0 t1 t3 t6 t8 t100 t105 t111 : AV) (H : AHeap) : R :=
  pPick t105 (.bool true) t111 H fun t112 H =>
  guardA t112 false (pO (aNil t8) H fun t115 H =>
  pFa 4 t115 H fun t116 H =>
  ldK .none H t116 fun t117 H =>
  pO (aLen .sl H t117) H fun t118 H =>
  pGtr t118 (.int .i64 (.ofNat 2048)) H fun t119 H =>
  S13_2 call t0 t1 t3 t6 t8 t100 t112 t119 H) (S13_2 call t0 t1 t3 t6 t8 t100 t112 U H)
noncomputable def S13_4 (call : CallFn) (t0 t1 t3 t6 t8 : AV) (H : AHeap) : R :=
  pO (aNil t0) H fun t102 H =>
  pFa 10 t102 H fun t103 H =>
  ldK .none H t103 fun t104 H =>
  guardA t104 false (pO (aNil t8) H fun t107 H =>
  pFa 2 t107 H fun t108 H =>
  ldK .none H t108 fun t109 H =>
  pO (aLen .sl H t109) H fun t110 H =>
  pGtr t110 (.int .i64 (.ofNat 64)) H fun t111 H =>
  S13_3 call t0 t1 t3 t6 t8 t0 t104 t111 H) (S13_3 call t0 t1 t3 t6 t8 t0 t104 U H)
noncomputable def S13_5 (call : CallFn) (t0 t1 t3 t6 t8 : AV) (H : AHeap) : R :=
  pO (aNil t8) H fun t75 H =>
  pFa 1 t75 H fun t76 H =>
  ldK .none H t76 fun t77 H =>
  pN (aBsl 1 1 [.nilsl] [(0, 1, .nilsl)]) H fun t78 H =>
  pW (aApp 1 24 H t77 t78) fun t79 H =>
  pO (aNil t8) H fun t80 H =>
  pFa 1 t80 H fun t81 H =>
  stK 1 H t81 t79 fun _ H =>
  pFa 3 t6 H fun t83 H =>
  ldK .none H t83 fun t84 H =>
  pIa 4 t84 (.int .i64 (.ofNat 2)) H fun t85 H =>
  ldK (.some 4) H t85 fun t86 H =>
  pC call 27 [t8, t86] H fun _ H =>
  pFa 3 t6 H fun t88 H =>
  ldK .none H t88 fun t89 H =>
  pIa 4 t89 (.int .i64 (.ofNat 1)) H fun t90 H =>
  pFa 0 t90 H fun t91 H =>
  ldK .none H t91 fun t92 H =>
  pEql t92 (.str [110, 111, 110, 101]) H fun t93 H =>
  onBool t93 (pO (someAgg (aFill [(.int .i64 (.ofNat 0)), (.int .i64 (.ofNat 0)), (.int .i64 (.ofNat 0)), (.int .i64 (.ofNat 0)), (.int .i64 (.ofNat 0))] [(0, 1, (.int .i64 (.ofNat 22))), (1, 1, (.int .i64 (.negSucc 0)))])) H fun t95 H =>
  pC call 28 [t8, t95] H fun _ H =>
  S13_4 call t0 t1 t3 t6 t8 H) (pO (someAgg (aFill [(.int .i64 (.ofNat 0)), (.int .i64 (.ofNat 0)), (.int .i64 (.ofNat 0)), (.int .i64 (.ofNat 0)), (.int .i64 (.ofNat 0))] [(0, 1, (.int .i64 (.ofNat 44))), (1, 1, (.int .i64 (.ofNat 1)))])) H fun t98 H =>
  pC call 28 [t8, t98] H fun _ H =>
  S13_4 call t0 t1 t3 t6 t8 H)
noncomputable def S13_6 (call : CallFn) (n : Nat) : AV → AV → AV → AV → AV → AV → AV → AV → AHeap → R :=
  Nat.rec (motive := fun _ => AV → AV → AV → AV → AV → AV → AV → AV → AHeap → R) (fun _ _ _ _ _ _ _ _ _ => none) (fun _ q0 t0 t1 t3 t6 t8 t43 t44 t45 H => pLss t45 t44 H fun t46 H =>
  onBool t46 (pIa 6 t43 t45 H fun t47 H =>
  ldK (.some 6) H t47 fun t48 H =>
  pNew [(.str []), (.str []), (.str []), (.int .i64 (.ofNat 0)), .nilsl, (.int .i64 (.ofNat 0))] H fun t12 H =>
  stK 6 H t12 t48 fun _ H =>
  pO (aNil t8) H fun t50 H =>
  pFa 1 t50 H fun t51 H =>
  ldK .none H t51 fun t52 H =>
  pO (aNil t8) H fun t54 H =>
  pFa 1 t54 H fun t55 H =>
  ldK .none H t55 fun t56 H =>
  pIa 1 t56 (.int .i64 (.ofNat 0)) H fun t57 H =>
  ldK .none H t57 fun t58 H =>
  pFa 0 t12 H fun t59 H =>
  ldK .none H t59 fun t60 H =>
  pFa 1 t12 H fun t61 H =>
  ldK (.some 4) H t61 fun t62 H =>
  pFa 1 t12 H fun t64 H =>
  ldK (.some 4) H t64 fun t65 H =>
  pC call 23 [t65] H fun t66 H =>
  andR (andB (ckV (aLoad .none H t51) t52) (andB (ckV (aLoad .none H t55) t56) (andB (ckV (aLoad .none H t57) t58) (andB (ckV (aLoad .none H t59) t60) (andB (ckV (aLoad (.some 4) H t61) t62) true))))) (
  pC call 25 [t8, t66] H fun t67 H =>
  andR (andB (ckV (aLoad .none H t51) t52) (andB (ckV (aLoad .none H t55) t56) (andB (ckV (aLoad .none H t57) t58) (andB (ckV (aLoad .none H t59) t60) (andB (ckV (aLoad (.some 4) H t61) t62) true))))) (
  pO (someAgg (aFill [(.str []), (.str []), (.str []), (.int .i64 (.ofNat 0)), .nilsl, (.int .i64 (.ofNat 0))] [(0, 1, t60), (1, 4, t62), (5, 1, t67)])) H fun t68 H =>
  pN (aBsl 6 1 [(.str []), (.str []), (.str []), (.int .i64 (.ofNat 0)), .nilsl, (.int .i64 (.ofNat 0))] [(0, 6, t68)]) H fun t69 H =>
  pC call 26 [t58, (.int .i64 (.ofNat 0)), t69] H fun t70 H =>
  andR (andB (ckV (aLoad .none H t51) t52) true) (
  pIa 1 t52 (.int .i64 (.ofNat 0)) H fun t71 H =>
  stK 1 H t71 t70 fun _ H =>
  pAdd t45 (.int .i64 (.ofNat 1)) H fun t72 H =>
  q0 t0 t1 t3 t6 t8 t43 t44 t72 H)))) (S13_5 call t0 t1 t3 t6 t8 H)) n
noncomputable def S13_7 (call : CallFn) (t0 t1 t3 t6 t8 : AV) (H : AHeap) : R :=
  pO (aLen .sl H t3) H fun t44 H =>
  S13_6 call 1000000 t0 t1 t3 t6 t8 t3 t44 (.int .i64 (.ofNat 0)) H
noncomputable def S13_8 (call : CallFn) (n : Nat) : AV → AV → AV → AV → AV → AV → AV → AV → AHeap → R :=
  Nat.rec (motive := fun _ => AV → AV → AV → AV → AV → AV → AV → AV → AHeap → R) (fun _ _ _ _ _ _ _ _ _ => none) (fun _ q1 t0 t1 t3 t6 t8 t21 t22 t23 H => pLss t23 t22 H fun t24 H =>
  onBool t24 (pIa 4 t21 t23 H fun t25 H =>
  ldK (.some 4) H t25 fun t26 H =>
  pNew [(.str []), (.str []), (.int .i64 (.ofNat 0)), .nilsl] H fun t10 H =>
  stK 4 H t10 t26 fun _ H =>
  pFa 1 t10 H fun t28 H =>
  ldK .none H t28 fun t29 H =>
  pFa 3 t10 H fun t30 H =>
  ldK .none H t30 fun t31 H =>
  pIa 4 t31 (.int .i64 (.ofNat 0)) H fun t32 H =>
  ldK (.some 4) H t32 fun t33 H =>
  pFa 3 t10 H fun t35 H =>
  ldK .none H t35 fun t36 H =>
  pIa 4 t36 (.int .i64 (.ofNat 0)) H fun t37 H =>
  ldK (.some 4) H t37 fun t38 H =>
  pC call 23 [t38] H fun t39 H =>
  andR (andB (ckV (aLoad .none H t28) t29) (andB (ckV (aLoad .none H t30) t31) (andB (ckV (aLoad (.some 4) H t32) t33) true))) (
  pC call 25 [t8, t39] H fun t40 H =>
  andR (andB (ckV (aLoad .none H t28) t29) (andB (ckV (aLoad .none H t30) t31) (andB (ckV (aLoad (.some 4) H t32) t33) true))) (
  pC call 24 [t8, t29, t33, t40] H fun _ H =>
  pAdd t23 (.int .i64 (.ofNat 1)) H fun t42 H =>
  q1 t0 t1 t3 t6 t8 t21 t22 t42 H))) (S13_7 call t0 t1 t3 t6 t8 H)) n
noncomputable def S13_9 (call : CallFn) (t0 t1 t2 t3 : AV) (H : AHeap) : R :=
  pBox t2 H fun t6 H =>
  pN (aBsl 1 1 [.nilsl] [(0, 1, .nilsl)]) H fun t14 H =>
  pO (someAgg (aFill [.nilp, .nilsl, .nilsl, .nilsl, .nilsl] [(0, 1, t0), (1, 1, t14)])) H fun t15 H =>
  pBox t15 H fun t16 H =>
  pFa 3 t6 H fun t17 H =>
  ldK .none H t17 fun t18 H =>
  pIa 4 t18 (.int .i64 (.ofNat 0)) H fun t19 H =>
  pFa 3 t19 H fun t20 H =>
  ldK .none H t20 fun t21 H =>
  pO (aLen .sl H t21) H fun t22 H =>
  S13_8 call 1000000 t0 t1 t3 t6 t16 t21 t22 (.int .i64 (.ofNat 0)) H
noncomputable def S13 : Ff := ⟨fun call l H => argA4 (fun t0 t1 t2 t3 => S13_9 call t0 t1 t2 t3 H) l⟩
/- gantline/verify.Without -/
noncomputable def S14_0 (_ : CallFn) (t4 : AV) (H : AHeap) : R :=
  pO (someAgg (aFill [(.int .i64 (.ofNat 0)), (.int .i64 (.ofNat 0)), (.int .i64 (.ofNat 0))] [])) H fun t92 H =>
  stK 3 H t4 t92 fun _ H =>
  ob (allM (fun o => o) [aLoad (.some 3) H t4, some (.bool true)]) fun vs => some (resV vs, H)
noncomputable def S14_2 (_ : CallFn) (q0 : AV → AV → AV → AV → AV → AV → AV → AHeap → R) (t1 t2 t4 t9 t41 t42 t43 : AV) (H : AHeap) : R :=
  pAdd t43 (.int .i64 (.ofNat 1)) H fun t91 H =>
  q0 t1 t2 t4 t9 t41 t42 t91 H
noncomputable def S14_4 (_ : CallFn) (q1 : AV → AV → AV → AV → AV → AV → AV → AV → AV → AV → AV → AV → AHeap → R) (t1 t2 t4 t9 t10 t12 t41 t42 t43 t57 t58 t59 : AV) (H : AHeap) : R :=
  pAdd t59 (.int .i64 (.ofNat 1)) H fun t90 H =>
  q1 t1 t2 t4 t9 t10 t12 t41 t42 t43 t57 t58 t90 H
noncomputable def S14_6 (_ : CallFn) (q2 : AV → AV → AV → AV → AV → AV → AV → AV → AV → AV → AV → AV → AV → AV → AHeap → R) (t1 t2 t4 t9 t10 t12 t13 t15 t41 t42 t43 t57 t58 t59 t80 t84 : AV) (H : AHeap) : R :=
  pPick t80 t84 (.bool false) H fun t85 H =>
  onBool t85 (pO (someAgg (aFill [(.int .i64 (.ofNat 0)), (.int .i64 (.ofNat 0)), (.int .i64 (.ofNat 0))] [(0, 1, t10), (1, 1, t13), (2, 1, t15)])) H fun t89 H =>
  stK 3 H t4 t89 fun _ H =>
  ob (allM (fun o => o) [aLoad (.some 3) H t4, some (.bool false)]) fun vs => some (resV vs, H)) (pAdd t15 (.int .i64 (.ofNat 1)) H fun t75 H =>
  q2 t1 t2 t4 t9 t10 t12 t13 t75 t41 t42 t43 t57 t58 t59 H)
noncomputable def S14_5 (call : CallFn) (q1 : AV → AV → AV → AV → AV → AV → AV → AV → AV → AV → AV → AV → AHeap → R) (n : Nat) : AV → AV → AV → AV → AV → AV → AV → AV → AV → AV → AV → AV → AV → AV → AHeap → R :=
  Nat.rec (motive := fun _ => AV → AV → AV → AV → AV → AV → AV → AV → AV → AV → AV → AV → AV → AV → AHeap → R) (fun _ _ _ _ _ _ _ _ _ _ _ _ _ _ _ => none) (fun _ q2 t1 t2 t4 t9 t10 t12 t13 t15 t41 t42 t43 t57 t58 t59 H => pLeq t15 (.int .i64 (.ofNat 10)) H fun t73 H =>
  onBool t73 (pC call 33 [t1, t15] H fun t78 H =>
  pO (aUn .not t78) H fun t79 H =>
  guardA t79 true (pC call 34 [t12, t15] H fun t83 H =>
  pO (aUn .not t83) H fun t84 H =>
  S14_6 call q2 t1 t2 t4 t9 t10 t12 t13 t15 t41 t42 t43 t57 t58 t59 t79 t84 H) (S14_6 call q2 t1 t2 t4 t9 t10 t12 t13 t15 t41 t42 t43 t57 t58 t59 t79 U H)) (S14_4 call q1 t1 t2 t4 t9 t10 t12 t41 t42 t43 t57 t58 t59 H)) n
noncomputable def S14_3 (call : CallFn) (q0 : AV → AV → AV → AV → AV → AV → AV → AHeap → R) (n : Nat) : AV → AV → AV → AV → AV → AV → AV → AV → AV → AV → AV → AV → AHeap → R :=
  Nat.rec (motive := fun _ => AV → AV → AV → AV → AV → AV → AV → AV → AV → AV → AV → AV → AHeap → R) (fun _ _ _ _ _ _ _ _ _ _ _ _ _ => none) (fun _ q1 t1 t2 t4 t9 t10 t12 t41 t42 t43 t57 t58 t59 H => pLss t59 t58 H fun t60 H =>
  onBool t60 (pIa 5 t57 t59 H fun t62 H =>
  ldK (.some 5) H t62 fun t63 H =>
  pNew [(.int .i64 (.ofNat 0)), (.int .i64 (.ofNat 0)), (.int .i64 (.ofNat 0)), (.int .i64 (.ofNat 0)), (.int .i64 (.ofNat 0))] H fun t14 H =>
  stK 5 H t14 t63 fun _ H =>
  ldK (.some 5) H t14 fun t67 H =>
  pO (aNil t12) H fun t68 H =>
  pFa 16 t68 H fun t69 H =>
  stK 1 H t69 t59 fun _ H =>
  andR (andB (ckV (aLoad (.some 5) H t14) t67) true) (
  pO (aNil t12) H fun t70 H =>
  pFa 17 t70 H fun t71 H =>
  stK 5 H t71 t67 fun _ H =>
  S14_5 call q1 1000000 t1 t2 t4 t9 t10 t12 t59 (.int .i64 (.ofNat 4)) t41 t42 t43 t57 t58 t59 H)) (S14_2 call q0 t1 t2 t4 t9 t41 t42 t43 H)) n
noncomputable def S14_1 (call : CallFn) (n : Nat) : AV → AV → AV → AV → AV → AV → AV → AHeap → R :=
  Nat.rec (motive := fun _ => AV → AV → AV → AV → AV → AV → AV → AHeap → R) (fun _ _ _ _ _ _ _ _ => none) (fun _ q0 t1 t2 t4 t9 t41 t42 t43 H => pLss t43 t42 H fun t44 H =>
  onBool t44 (pIa 7 t41 t43 H fun t46 H =>
  ldK (.some 7) H t46 fun t47 H =>
  pNew [(.int .i64 (.ofNat 0)), (.int .i64 (.ofNat 0)), (.int .i64 (.ofNat 0)), (.int .i64 (.ofNat 0)), .nilsl, .nilsl, .nilsl] H fun t11 H =>
  stK 7 H t11 t47 fun _ H =>
  ldK (.some 6) H t2 fun t48 H =>
  ldK (.some 7) H t11 fun t49 H =>
  ldK (.some 6) H t2 fun t50 H =>
  ldK (.some 7) H t11 fun t51 H =>
  pC call 32 [t50, t51] H fun t52 H =>
  andR (andB (ckV (aLoad (.some 6) H t2) t48) (andB (ckV (aLoad (.some 7) H t11) t49) true)) (
  pO (someAgg (aFill [.nilsl, .nilsl, .nilsl, .nilsl, .nilsl, (.int .i64 (.ofNat 0)), (.int .i64 (.ofNat 0)), (.int .i64 (.ofNat 0)), (.int .i64 (.ofNat 0)), (.int .i64 (.ofNat 0)), .nilsl, .nilsl, .nilsl, .nilsl, .nilsl, .nilsl, (.int .i64 (.ofNat 0)), (.int .i64 (.ofNat 0)), (.int .i64 (.ofNat 0)), (.int .i64 (.ofNat 0)), (.int .i64 (.ofNat 0)), (.int .i64 (.ofNat 0))] [(0, 6, t48), (6, 7, t49), (13, 1, t52), (15, 1, t9)])) H fun t54 H =>
  pBox t54 H fun t55 H =>
  pFa 5 t11 H fun t56 H =>
  ldK .none H t56 fun t57 H =>
  pO (aLen .sl H t57) H fun t58 H =>
  S14_3 call q0 1000000 t1 t2 t4 t9 t43 t55 t41 t42 t43 t57 t58 (.int .i64 (.ofNat 0)) H)) (S14_0 call t4 H)) n
noncomputable def S14_7 (call : CallFn) (t1 t2 t4 : AV) (H : AHeap) : R :=
  pFa 3 t2 H fun t36 H =>
  ldK .none H t36 fun t37 H =>
  pO (aLen .sl H t37) H fun t38 H =>
  pN (aMksl 1 1 [(.bool false)] t38 t38) H fun t39 H =>
  pFa 4 t2 H fun t40 H =>
  ldK .none H t40 fun t41 H =>
  pO (aLen .sl H t41) H fun t42 H =>
  S14_1 call 1000000 t1 t2 t4 t39 t41 t42 (.int .i64 (.ofNat 0)) H
noncomputable def S14_8 (call : CallFn) (n : Nat) : AV → AV → AV → AV → AV → AV → AHeap → R :=
  Nat.rec (motive := fun _ => AV → AV → AV → AV → AV → AV → AHeap → R) (fun _ _ _ _ _ _ _ => none) (fun _ q3 t1 t2 t4 t23 t24 t25 H => pLss t25 t24 H fun t26 H =>
  onBool t26 (pIa 7 t23 t25 H fun t28 H =>
  ldK (.some 7) H t28 fun t29 H =>
  pNew [(.int .i64 (.ofNat 0)), (.int .i64 (.ofNat 0)), (.int .i64 (.ofNat 0)), (.int .i64 (.ofNat 0)), .nilsl, .nilsl, .nilsl] H fun t8 H =>
  stK 7 H t8 t29 fun _ H =>
  ldK (.some 7) H t8 fun t30 H =>
  pC call 31 [t30] H fun t31 H =>
  pO (aUn .not t31) H fun t32 H =>
  onBool t32 (pO (someAgg (aFill [(.int .i64 (.ofNat 0)), (.int .i64 (.ofNat 0)), (.int .i64 (.ofNat 0))] [(0, 1, t25), (1, 1, (.int .i64 (.negSucc 0))), (2, 1, (.int .i64 (.ofNat 3)))])) H fun t34 H =>
  stK 3 H t4 t34 fun _ H =>
  ob (allM (fun o => o) [aLoad (.some 3) H t4, some (.bool false)]) fun vs => some (resV vs, H)) (pAdd t25 (.int .i64 (.ofNat 1)) H fun t35 H =>
  q3 t1 t2 t4 t23 t24 t35 H)) (S14_7 call t1 t2 t4 H)) n
noncomputable def S14_9 (call : CallFn) (t0 t1 : AV) (H : AHeap) : R :=
  pBox t0 H fun t2 H =>
  pNew [(.int .i64 (.ofNat 0)), (.int .i64 (.ofNat 0)), (.int .i64 (.ofNat 0))] H fun t4 H =>
  ldK (.some 6) H t2 fun t16 H =>
  pC call 30 [t16] H fun t17 H =>
  pGtr t17 (.int .i64 (.ofNat 0)) H fun t19 H =>
  onBool t19 (pO (someAgg (aFill [(.int .i64 (.ofNat 0)), (.int .i64 (.ofNat 0)), (.int .i64 (.ofNat 0))] [(0, 1, (.int .i64 (.negSucc 0))), (1, 1, (.int .i64 (.negSucc 0))), (2, 1, t17)])) H fun t21 H =>
  stK 3 H t4 t21 fun _ H =>
  ob (allM (fun o => o) [aLoad (.some 3) H t4, some (.bool false)]) fun vs => some (resV vs, H)) (pFa 4 t2 H fun t22 H =>
  ldK .none H t22 fun t23 H =>
  pO (aLen .sl H t23) H fun t24 H =>
  S14_8 call 1000000 t1 t2 t4 t23 t24 (.int .i64 (.ofNat 0)) H)
noncomputable def S14 : Ff := ⟨fun call l H => argA2 (fun t0 t1 => S14_9 call t0 t1 H) l⟩
/- gantline/gantlineref19.Cut -/
noncomputable def S15_0 (_ : CallFn) (t0 t4 : AV) (H : AHeap) : R :=
  pO (aLen .str H t0) H fun t145 H =>
  pO (someAgg (aFill [(.int .i64 (.ofNat 0)), (.str []), (.int .i64 (.ofNat 0))] [(2, 1, t145)])) H fun t146 H =>
  pN (aBsl 3 1 [(.int .i64 (.ofNat 0)), (.str []), (.int .i64 (.ofNat 0))] [(0, 3, t146)]) H fun t147 H =>
  pW (aApp 3 32 H t4 t147) fun t148 H =>
  some (.tup [t148, (.int .i64 (.negSucc 0))], H)
noncomputable def S15_2 (_ : CallFn) (q0 : AV → AV → AV → AHeap → R) (t0 t4 t5 t7 t8 : AV) (H : AHeap) : R :=
  pO (aSliceS t0 (.some t5) (.some t7)) H fun t136 H =>
  pFa 1 t8 H fun t137 H =>
  stK 1 H t137 t136 fun _ H =>
  ldK (.some 3) H t8 fun t139 H =>
  pN (aBsl 3 1 [(.int .i64 (.ofNat 0)), (.str []), (.int .i64 (.ofNat 0))] [(0, 3, t139)]) H fun t140 H =>
  pW (aApp 3 32 H t4 t140) fun t141 H =>
  q0 t0 t141 t7 H
noncomputable def S15_3 (call : CallFn) (q0 : AV → AV → AV → AHeap → R) (t0 t4 t5 t7 t8 : AV) (H : AHeap) : R :=
  pSub t7 t5 H fun t107 H =>
  pGtr t107 (.int .i64 (.ofNat 64)) H fun t108 H =>
  onBool t108 (some (.tup [.nilsl, t5], H)) (S15_2 call q0 t0 t4 t5 t7 t8 H)
noncomputable def S15_4 (call : CallFn) (q0 : AV → AV → AV → AHeap → R) (t0 t4 t5 t7 t8 : AV) (H : AHeap) : R :=
  pFa 0 t8 H fun t98 H =>
  stK 1 H t98 (.int .i64 (.ofNat 1)) fun _ H =>
  pO (aSliceS t0 (.some t5) (.some t7)) H fun t102 H =>
  pC call 37 [t102] H fun t103 H =>
  onBool t103 (pFa 0 t8 H fun t104 H =>
  stK 1 H t104 (.int .i64 (.ofNat 2)) fun _ H =>
  S15_3 call q0 t0 t4 t5 t7 t8 H) (S15_3 call q0 t0 t4 t5 t7 t8 H)
noncomputable def S15_6 (call : CallFn) (q0 : AV → AV → AV → AHeap → R) (q1 : AV → AV → AV → AV → AV → AHeap → R) (t0 t4 t5 t7 t8 t84 t94 : AV) (H : AHeap) : R :=
  pPick t84 t94 (.bool false) H fun t95 H =>
  onBool t95 (pAdd t7 (.int .i64 (.ofNat 1)) H fun t97 H =>
  q1 t0 t4 t5 t97 t8 H) (S15_4 call q0 t0 t4 t5 t7 t8 H)
noncomputable def S15_7 (call : CallFn) (q0 : AV → AV → AV → AHeap → R) (q1 : AV → AV → AV → AV → AV → AHeap → R) (t0 t4 t5 t7 t8 t84 t89 t93 : AV) (H : AHeap) : R :=
  guardA t84 true (pPick t89 (.bool true) t93 H fun t94 H =>
  S15_6 call q0 q1 t0 t4 t5 t7 t8 t84 t94 H) (S15_6 call q0 q1 t0 t4 t5 t7 t8 t84 U H)
noncomputable def S15_8 (call : CallFn) (q0 : AV → AV → AV → AHeap → R) (q1 : AV → AV → AV → AV → AV → AHeap → R) (t0 t4 t5 t7 t8 t84 t89 : AV) (H : AHeap) : R :=
  guardA t89 false (pO (aIdxS t0 t7) H fun t92 H =>
  pC call 36 [t92] H fun t93 H =>
  S15_7 call q0 q1 t0 t4 t5 t7 t8 t84 t89 t93 H) (S15_7 call q0 q1 t0 t4 t5 t7 t8 t84 t89 U H)
noncomputable def S15_5 (call : CallFn) (q0 : AV → AV → AV → AHeap → R) (n : Nat) : AV → AV → AV → AV → AV → AHeap → R :=
  Nat.rec (motive := fun _ => AV → AV → AV → AV → AV → AHeap → R) (fun _ _ _ _ _ _ => none) (fun _ q1 t0 t4 t5 t7 t8 H => pO (aLen .str H t0) H fun t82 H =>
  pLss t7 t82 H fun t83 H =>
  guardA t83 true (pO (aIdxS t0 t7) H fun t87 H =>
  pC call 35 [t87] H fun t88 H =>
  S15_8 call q0 q1 t0 t4 t5 t7 t8 t83 t88 H) (S15_8 call q0 q1 t0 t4 t5 t7 t8 t83 U H)) n
noncomputable def S15_9 (call : CallFn) (q0 : AV → AV → AV → AHeap → R) (t0 t4 t5 t7 t8 : AV) (H : AHeap) : R :=
  pFa 0 t8 H fun t125 H =>
  stK 1 H t125 (.int .i64 (.ofNat 3)) fun _ H =>
  pO (aSliceS t0 (.some t5) (.some t7)) H fun t129 H =>
  pC call 38 [t129] H fun t130 H =>
  pO (aUn .not t130) H fun t131 H =>
  onBool t131 (some (.tup [.nilsl, t5], H)) (S15_2 call q0 t0 t4 t5 t7 t8 H)
noncomputable def S15_11 (call : CallFn) (q0 : AV → AV → AV → AHeap → R) (q2 : AV → AV → AV → AV → AV → AHeap → R) (t0 t4 t5 t7 t8 t117 t121 : AV) (H : AHeap) : R :=
  pPick t117 t121 (.bool false) H fun t122 H =>
  onBool t122 (pAdd t7 (.int .i64 (.ofNat 1)) H fun t124 H =>
  q2 t0 t4 t5 t124 t8 H) (S15_9 call q0 t0 t4 t5 t7 t8 H)
noncomputable def S15_10 (call : CallFn) (q0 : AV → AV → AV → AHeap → R) (n : Nat) : AV → AV → AV → AV → AV → AHeap → R :=
  Nat.rec (motive := fun _ => AV → AV → AV → AV → AV → AHeap → R) (fun _ _ _ _ _ _ => none) (fun _ q2 t0 t4 t5 t7 t8 H => pO (aLen .str H t0) H fun t115 H =>
  pLss t7 t115 H fun t116 H =>
  guardA t116 true (pO (aIdxS t0 t7) H fun t120 H =>
  pC call 36 [t120] H fun t121 H =>
  S15_11 call q0 q2 t0 t4 t5 t7 t8 t116 t121 H) (S15_11 call q0 q2 t0 t4 t5 t7 t8 t116 U H)) n
noncomputable def S15_12 (call : CallFn) (q0 : AV → AV → AV → AHeap → R) (t0 t4 t5 t6 : AV) (H : AHeap) : R :=
  pO (someAgg (aFill [(.int .i64 (.ofNat 0)), (.str []), (.int .i64 (.ofNat 0))] [(2, 1, t5)])) H fun t64 H =>
  pNew [(.int .i64 (.ofNat 0)), (.str []), (.int .i64 (.ofNat 0))] H fun t8 H =>
  stK 3 H t8 t64 fun _ H =>
  pC call 35 [t6] H fun t79 H =>
  onBool t79 (S15_5 call q0 1000000 t0 t4 t5 t5 t8 H) (pC call 36 [t6] H fun t112 H =>
  onBool t112 (S15_10 call q0 1000000 t0 t4 t5 t5 t8 H) (pO (aSliceS t0 (.some t5) .none) H fun t67 H =>
  pC call 39 [t67] H fun t68 H =>
  pEql t68 (.str []) H fun t70 H =>
  onBool t70 (some (.tup [.nilsl, t5], H)) (pFa 0 t8 H fun t72 H =>
  stK 1 H t72 (.int .i64 (.ofNat 4)) fun _ H =>
  pO (aLen .str H t68) H fun t75 H =>
  pAdd t5 t75 H fun t76 H =>
  S15_2 call q0 t0 t4 t5 t76 t8 H)))
noncomputable def S15_14 (_ : CallFn) (q0 : AV → AV → AV → AHeap → R) (q3 : AV → AV → AV → AHeap → R) (t0 t4 t5 t54 t58 : AV) (H : AHeap) : R :=
  pPick t54 t58 (.bool false) H fun t59 H =>
  onBool t59 (pAdd t5 (.int .i64 (.ofNat 1)) H fun t61 H =>
  q3 t0 t4 t61 H) (q0 t0 t4 t5 H)
noncomputable def S15_13 (call : CallFn) (q0 : AV → AV → AV → AHeap → R) (n : Nat) : AV → AV → AV → AHeap → R :=
  Nat.rec (motive := fun _ => AV → AV → AV → AHeap → R) (fun _ _ _ _ => none) (fun _ q3 t0 t4 t5 H => pO (aLen .str H t0) H fun t52 H =>
  pLss t5 t52 H fun t53 H =>
  guardA t53 true (pO (aIdxS t0 t5) H fun t57 H =>
  pNeq t57 (.int .u8 (.ofNat 10)) H fun t58 H =>
  S15_14 call q0 q3 t0 t4 t5 t53 t58 H) (S15_14 call q0 q3 t0 t4 t5 t53 U H)) n
noncomputable def S15_15 (call : CallFn) (q0 : AV → AV → AV → AHeap → R) (t0 t4 t5 t6 t43 t48 : AV) (H : AHeap) : R :=
  pPick t43 t48 (.bool false) H fun t49 H =>
  onBool t49 (S15_13 call q0 1000000 t0 t4 t5 H) (S15_12 call q0 t0 t4 t5 t6 H)
noncomputable def S15_16 (call : CallFn) (q0 : AV → AV → AV → AHeap → R) (t0 t4 t5 t6 t36 t41 : AV) (H : AHeap) : R :=
  pPick t36 t41 (.bool false) H fun t42 H =>
  guardA t42 true (pAdd t5 (.int .i64 (.ofNat 1)) H fun t46 H =>
  pO (aIdxS t0 t46) H fun t47 H =>
  pEql t47 (.int .u8 (.ofNat 47)) H fun t48 H =>
  S15_15 call q0 t0 t4 t5 t6 t42 t48 H) (S15_15 call q0 t0 t4 t5 t6 t42 U H)
noncomputable def S15_17 (call : CallFn) (q0 : AV → AV → AV → AHeap → R) (t0 t4 t5 t6 t28 t30 : AV) (H : AHeap) : R :=
  pPick t28 (.bool true) t30 H fun t31 H =>
  onBool t31 (pAdd t5 (.int .i64 (.ofNat 1)) H fun t33 H =>
  q0 t0 t4 t33 H) (pEql t6 (.int .u8 (.ofNat 47)) H fun t35 H =>
  guardA t35 true (pAdd t5 (.int .i64 (.ofNat 1)) H fun t38 H =>
  pO (aLen .str H t0) H fun t40 H =>
  pLss t38 t40 H fun t41 H =>
  S15_16 call q0 t0 t4 t5 t6 t35 t41 H) (S15_16 call q0 t0 t4 t5 t6 t35 U H))
noncomputable def S15_18 (call : CallFn) (q0 : AV → AV → AV → AHeap → R) (t0 t4 t5 t6 t24 t26 : AV) (H : AHeap) : R :=
  pPick t24 (.bool true) t26 H fun t27 H =>
  guardA t27 false (pEql t6 (.int .u8 (.ofNat 13)) H fun t30 H =>
  S15_17 call q0 t0 t4 t5 t6 t27 t30 H) (S15_17 call q0 t0 t4 t5 t6 t27 U H)
noncomputable def S15_19 (call : CallFn) (q0 : AV → AV → AV → AHeap → R) (t0 t4 t5 t6 t20 t22 : AV) (H : AHeap) : R :=
  pPick t20 (.bool true) t22 H fun t23 H =>
  guardA t23 false (pEql t6 (.int .u8 (.ofNat 10)) H fun t26 H =>
  S15_18 call q0 t0 t4 t5 t6 t23 t26 H) (S15_18 call q0 t0 t4 t5 t6 t23 U H)
noncomputable def S15_1 (call : CallFn) (n : Nat) : AV → AV → AV → AHeap → R :=
  Nat.rec (motive := fun _ => AV → AV → AV → AHeap → R) (fun _ _ _ _ => none) (fun _ q0 t0 t4 t5 H => pO (aLen .str H t0) H fun t13 H =>
  pLss t5 t13 H fun t14 H =>
  onBool t14 (pO (aIdxS t0 t5) H fun t17 H =>
  pEql t17 (.int .u8 (.ofNat 32)) H fun t19 H =>
  guardA t19 false (pEql t17 (.int .u8 (.ofNat 9)) H fun t22 H =>
  S15_19 call q0 t0 t4 t5 t17 t19 t22 H) (S15_19 call q0 t0 t4 t5 t17 t19 U H)) (S15_0 call t0 t4 H)) n
noncomputable def S15_20 (call : CallFn) (t0 : AV) (H : AHeap) : R :=
  pN (aMksl 3 32 [(.int .i64 (.ofNat 0)), (.str []), (.int .i64 (.ofNat 0))] (.int .i64 (.ofNat 0)) (.int .i64 (.ofNat 0))) H fun t10 H =>
  S15_1 call 1000000 t0 t10 (.int .i64 (.ofNat 0)) H
noncomputable def S15 : Ff := ⟨fun call l H => argA1 (fun t0 => S15_20 call t0 H) l⟩
/- (*gantline/gantlineref19.parser).decl -/
noncomputable def S16_0 (call : CallFn) (t0 t2 : AV) (H : AHeap) : R :=
  pC call 47 [t0] H fun _ H =>
  pO (someAgg (aFill [(.str []), (.str []), (.int .i64 (.ofNat 0)), .nilsl] [])) H fun t78 H =>
  stK 4 H t2 t78 fun _ H =>
  ob (allM (fun o => o) [aLoad (.some 4) H t2]) fun vs => some (resV vs, H)
noncomputable def S16_1 (call : CallFn) (t0 t2 t4 : AV) (H : AHeap) : R :=
  pC call 43 [t0, (.str [125])] H fun _ H =>
  ldK (.some 4) H t4 fun t50 H =>
  stK 4 H t2 t50 fun _ H =>
  ob (allM (fun o => o) [aLoad (.some 4) H t2]) fun vs => some (resV vs, H)
noncomputable def S16_3 (call : CallFn) (q0 : AV → AV → AV → AHeap → R) (t0 t2 t4 t25 t28 : AV) (H : AHeap) : R :=
  pPick t25 t28 (.bool false) H fun t29 H =>
  onBool t29 (pC call 40 [t0] H fun t31 H =>
  pO (aFld 2 .none t31) H fun t32 H =>
  pC call 42 [t0] H fun t34 H =>
  pO (someAgg (aFill [(.str []), (.str []), (.int .i64 (.ofNat 0)), .nilsl] [(0, 1, (.str [102, 105, 101, 108, 100])), (2, 1, t32), (1, 1, t34)])) H fun t35 H =>
  pNew [(.str []), (.str []), (.int .i64 (.ofNat 0)), .nilsl] H fun t5 H =>
  stK 4 H t5 t35 fun _ H =>
  pC call 45 [t0] H fun t37 H =>
  pN (aBsl 4 1 [(.str []), (.str []), (.int .i64 (.ofNat 0)), .nilsl] [(0, 4, t37)]) H fun t38 H =>
  pFa 3 t5 H fun t39 H =>
  stK 1 H t39 t38 fun _ H =>
  pC call 43 [t0, (.str [59])] H fun _ H =>
  pFa 3 t4 H fun t42 H =>
  ldK .none H t42 fun t43 H =>
  ldK (.some 4) H t5 fun t44 H =>
  pN (aBsl 4 1 [(.str []), (.str []), (.int .i64 (.ofNat 0)), .nilsl] [(0, 4, t44)]) H fun t45 H =>
  pW (aApp 4 64 H t43 t45) fun t46 H =>
  pFa 3 t4 H fun t47 H =>
  stK 1 H t47 t46 fun _ H =>
  q0 t0 t2 t4 H) (S16_1 call t0 t2 t4 H)
noncomputable def S16_2 (call : CallFn) (n : Nat) : AV → AV → AV → AHeap → R :=
  Nat.rec (motive := fun _ => AV → AV → AV → AHeap → R) (fun _ _ _ _ => none) (fun _ q0 t0 t2 t4 H => pO (aNil t0) H fun t21 H =>
  pFa 2 t21 H fun t22 H =>
  ldK .none H t22 fun t23 H =>
  pLss t23 (.int .i64 (.ofNat 0)) H fun t24 H =>
  guardA t24 true (pC call 44 [t0, (.str [125])] H fun t27 H =>
  pO (aUn .not t27) H fun t28 H =>
  S16_3 call q0 t0 t2 t4 t24 t28 H) (S16_3 call q0 t0 t2 t4 t24 U H)) n
noncomputable def S16_4 (call : CallFn) (t0 : AV) (H : AHeap) : R :=
  pNew [(.str []), (.str []), (.int .i64 (.ofNat 0)), .nilsl] H fun t2 H =>
  pC call 40 [t0] H fun t9 H =>
  pO (aFld 2 .none t9) H fun t10 H =>
  pC call 41 [t0, (.str [115, 116, 114, 117, 99, 116])] H fun t13 H =>
  onBool t13 (pC call 42 [t0] H fun t16 H =>
  pO (someAgg (aFill [(.str []), (.str []), (.int .i64 (.ofNat 0)), .nilsl] [(0, 1, (.str [115, 116, 114, 117, 99, 116])), (2, 1, t10), (1, 1, t16)])) H fun t17 H =>
  pNew [(.str []), (.str []), (.int .i64 (.ofNat 0)), .nilsl] H fun t4 H =>
  stK 4 H t4 t17 fun _ H =>
  pC call 43 [t0, (.str [123])] H fun _ H =>
  S16_2 call 1000000 t0 t2 t4 H) (pC call 41 [t0, (.str [118, 97, 114])] H fun t53 H =>
  onBool t53 (pC call 42 [t0] H fun t56 H =>
  pO (someAgg (aFill [(.str []), (.str []), (.int .i64 (.ofNat 0)), .nilsl] [(0, 1, (.str [103, 108, 111, 98, 97, 108])), (2, 1, t10), (1, 1, t56)])) H fun t57 H =>
  pNew [(.str []), (.str []), (.int .i64 (.ofNat 0)), .nilsl] H fun t6 H =>
  stK 4 H t6 t57 fun _ H =>
  pC call 45 [t0] H fun t59 H =>
  pN (aBsl 4 1 [(.str []), (.str []), (.int .i64 (.ofNat 0)), .nilsl] [(0, 4, t59)]) H fun t60 H =>
  pFa 3 t6 H fun t61 H =>
  stK 1 H t61 t60 fun _ H =>
  pC call 43 [t0, (.str [59])] H fun _ H =>
  ldK (.some 4) H t6 fun t64 H =>
  stK 4 H t2 t64 fun _ H =>
  ob (allM (fun o => o) [aLoad (.some 4) H t2]) fun vs => some (resV vs, H)) (pC call 41 [t0, (.str [102, 117, 110, 99])] H fun t67 H =>
  onBool t67 (pC call 42 [t0] H fun t70 H =>
  pO (someAgg (aFill [(.str []), (.str []), (.int .i64 (.ofNat 0)), .nilsl] [(0, 1, (.str [102, 117, 110, 99])), (2, 1, t10), (1, 1, t70)])) H fun t71 H =>
  pNew [(.str []), (.str []), (.int .i64 (.ofNat 0)), .nilsl] H fun t7 H =>
  stK 4 H t7 t71 fun _ H =>
  pC call 46 [t0] H fun t73 H =>
  pFa 3 t7 H fun t74 H =>
  stK 1 H t74 t73 fun _ H =>
  ldK (.some 4) H t7 fun t75 H =>
  stK 4 H t2 t75 fun _ H =>
  ob (allM (fun o => o) [aLoad (.some 4) H t2]) fun vs => some (resV vs, H)) (S16_0 call t0 t2 H)))
noncomputable def S16 : Ff := ⟨fun call l H => argA1 (fun t0 => S16_4 call t0 H) l⟩
/- gantline/check.whole -/
noncomputable def S17_0 (_ : CallFn) (t5 t9 : AV) (H : AHeap) : R :=
  pPick t5 t9 (.bool false) H fun t10 H =>
  some (t10, H)
noncomputable def S17_1 (call : CallFn) (t0 : AV) (H : AHeap) : R :=
  pBox t0 H fun t1 H =>
  ldK (.some 4) H t1 fun t3 H =>
  pC call 48 [t3] H fun t4 H =>
  guardA t4 true (pFa 3 t1 H fun t6 H =>
  ldK .none H t6 fun t7 H =>
  pC call 49 [t7, (.fn 50 [] [])] H fun t8 H =>
  pO (aUn .not t8) H fun t9 H =>
  S17_0 call t4 t9 H) (S17_0 call t4 U H)
noncomputable def S17 : Ff := ⟨fun call l H => argA1 (fun t0 => S17_1 call t0 H) l⟩
/- (*gantline/check.checker).once -/
noncomputable def S18_0 (call : CallFn) (n : Nat) : AV → AV → AV → AV → AV → AHeap → R :=
  Nat.rec (motive := fun _ => AV → AV → AV → AV → AV → AHeap → R) (fun _ _ _ _ _ _ => none) (fun _ q0 t0 t4 t8 t9 t10 H => pLss t10 t9 H fun t11 H =>
  onBool t11 (pIa 4 t8 t10 H fun t12 H =>
  ldK (.some 4) H t12 fun t13 H =>
  pNew [(.str []), (.str []), (.int .i64 (.ofNat 0)), .nilsl] H fun t6 H =>
  stK 4 H t6 t13 fun _ H =>
  pFa 1 t6 H fun t16 H =>
  ldK .none H t16 fun t17 H =>
  pO (aLook .str (.bool false) false H t4 t17) H fun t18 H =>
  pO (aUn .not t18) H fun t19 H =>
  ldK (.some 4) H t6 fun t20 H =>
  pC call 21 [t0, t19, t20] H fun _ H =>
  pFa 1 t6 H fun t23 H =>
  ldK .none H t23 fun t24 H =>
  pW (unitW (aMapUp .str H t4 t24 (.bool true))) fun _ H =>
  pAdd t10 (.int .i64 (.ofNat 1)) H fun t25 H =>
  q0 t0 t4 t8 t9 t25 H) (some (.tup [], H))) n
noncomputable def S18_1 (call : CallFn) (t0 t1 : AV) (H : AHeap) : R :=
  pMap H fun t7 H =>
  pO (aLen .sl H t1) H fun t9 H =>
  S18_0 call 1000000 t0 t7 t1 t9 (.int .i64 (.ofNat 0)) H
noncomputable def S18 : Ff := ⟨fun call l H => argA2 (fun t0 t1 => S18_1 call t0 t1 H) l⟩
/- (*gantline/check.checker).named -/
noncomputable def S19_0 (call : CallFn) (n : Nat) : AV → AV → AV → AV → AHeap → R :=
  Nat.rec (motive := fun _ => AV → AV → AV → AV → AHeap → R) (fun _ _ _ _ _ => none) (fun _ q0 t0 t23 t24 t25 H => pLss t25 t24 H fun t26 H =>
  onBool t26 (pIa 4 t23 t25 H fun t27 H =>
  ldK (.some 4) H t27 fun t28 H =>
  pNew [(.str []), (.str []), (.int .i64 (.ofNat 0)), .nilsl] H fun t7 H =>
  stK 4 H t7 t28 fun _ H =>
  ldK (.some 4) H t7 fun t30 H =>
  pC call 19 [t0, t30] H fun _ H =>
  pAdd t25 (.int .i64 (.ofNat 1)) H fun t32 H =>
  q0 t0 t23 t24 t32 H) (some (.tup [], H))) n
noncomputable def S19_1 (call : CallFn) (t0 t3 : AV) (H : AHeap) : R :=
  pFa 3 t3 H fun t22 H =>
  ldK .none H t22 fun t23 H =>
  pO (aLen .sl H t23) H fun t24 H =>
  S19_0 call 1000000 t0 t23 t24 (.int .i64 (.ofNat 0)) H
noncomputable def S19_2 (call : CallFn) (t0 t1 : AV) (H : AHeap) : R :=
  pBox t1 H fun t3 H =>
  pFa 0 t3 H fun t8 H =>
  ldK .none H t8 fun t9 H =>
  pEql t9 (.str [110, 97, 109, 101, 100]) H fun t10 H =>
  onBool t10 (pFa 1 t3 H fun t13 H =>
  ldK .none H t13 fun t14 H =>
  pC call 20 [t0, (.str [115, 116, 114, 117, 99, 116]), t14] H fun t15 H =>
  pExt t15 0 H fun t16 H =>
  pExt t15 1 H fun t17 H =>
  pNew [(.str []), (.str []), (.int .i64 (.ofNat 0)), .nilsl] H fun t4 H =>
  stK 4 H t4 t16 fun _ H =>
  ldK (.some 4) H t3 fun t20 H =>
  pC call 21 [t0, t17, t20] H fun _ H =>
  S19_1 call t0 t3 H) (S19_1 call t0 t3 H)
noncomputable def S19 : Ff := ⟨fun call l H => argA2 (fun t0 t1 => S19_2 call t0 t1 H) l⟩
/- (*gantline/check.checker).decl -/
noncomputable def S20_0 (call : CallFn) (t0 t1 t2 : AV) (H : AHeap) : R :=
  pBox t1 H fun t4 H =>
  pBox t2 H fun t5 H =>
  pNew [(.str []), (.str []), (.int .i64 (.ofNat 0)), .nilsl] H fun t6 H =>
  pO (aNil t0) H fun t10 H =>
  pFa 0 t10 H fun t11 H =>
  pFa 3 t11 H fun t12 H =>
  ldK .none H t12 fun t13 H =>
  pC call 51 [t13, (.fn 52 [] [t4, t5])] H fun t15 H =>
  pLss t15 (.int .i64 (.ofNat 0)) H fun t17 H =>
  onBool t17 (pO (someAgg (aFill [(.str []), (.str []), (.int .i64 (.ofNat 0)), .nilsl] [])) H fun t18 H =>
  stK 4 H t6 t18 fun _ H =>
  ob (allM (fun o => o) [aLoad (.some 4) H t6, some (.bool false)]) fun vs => some (resV vs, H)) (pO (aNil t0) H fun t20 H =>
  pFa 0 t20 H fun t21 H =>
  pFa 3 t21 H fun t22 H =>
  ldK .none H t22 fun t23 H =>
  pIa 4 t23 t15 H fun t25 H =>
  ldK (.some 4) H t25 fun t26 H =>
  stK 4 H t6 t26 fun _ H =>
  ob (allM (fun o => o) [aLoad (.some 4) H t6, some (.bool true)]) fun vs => some (resV vs, H))
noncomputable def S20 : Ff := ⟨fun call l H => argA3 (fun t0 t1 t2 => S20_0 call t0 t1 t2 H) l⟩
/- (*gantline/check.checker).must -/
noncomputable def S21_0 (call : CallFn) (t0 t1 t2 : AV) (H : AHeap) : R :=
  pBox t2 H fun t5 H =>
  pO (aUn .not t1) H fun t7 H =>
  onBool t7 (pFa 2 t5 H fun t9 H =>
  ldK .none H t9 fun t10 H =>
  pC call 53 [t0, t10] H fun _ H =>
  some (.tup [], H)) (some (.tup [], H))
noncomputable def S21 : Ff := ⟨fun call l H => argA3 (fun t0 t1 t2 => S21_0 call t0 t1 t2 H) l⟩
/- (*gantline/check.checker).fn -/
noncomputable def S22_0 (call : CallFn) (t0 t3 t4 t87 t94 t99 t101 : AV) (H : AHeap) : R :=
  andR (andB (ckV (aLoad (.some 4) H t3) t101) true) (
  pPick t94 (.bool true) t99 H fun t100 H =>
  pC call 21 [t87, t100, t101] H fun _ H =>
  ldK (.some 4) H t4 fun t104 H =>
  pO (aNil t0) H fun t105 H =>
  pFa 8 t105 H fun t106 H =>
  stK 4 H t106 t104 fun _ H =>
  some (.tup [], H))
noncomputable def S22_1 (call : CallFn) (t0 t3 t4 t87 t94 t98 : AV) (H : AHeap) : R :=
  ldK (.some 4) H t3 fun t101 H =>
  guardA t94 false (pC call 56 [t98] H fun t99 H =>
  S22_0 call t0 t3 t4 t87 t94 t99 t101 H) (S22_0 call t0 t3 t4 t87 t94 U t101 H)
noncomputable def S22_2 (call : CallFn) (t0 t3 t4 t87 t94 t97 : AV) (H : AHeap) : R :=
  guardA t94 false (ldK (.some 4) H t97 fun t98 H =>
  S22_1 call t0 t3 t4 t87 t94 t98 H) (S22_1 call t0 t3 t4 t87 t94 U H)
noncomputable def S22_3 (call : CallFn) (t0 t3 t4 t87 t94 t96 : AV) (H : AHeap) : R :=
  guardA t94 false (pIa 4 t96 (.int .i64 (.ofNat 2)) H fun t97 H =>
  S22_2 call t0 t3 t4 t87 t94 t97 H) (S22_2 call t0 t3 t4 t87 t94 U H)
noncomputable def S22_4 (call : CallFn) (t0 t3 t4 t87 t94 t95 : AV) (H : AHeap) : R :=
  guardA t94 false (ldK .none H t95 fun t96 H =>
  S22_3 call t0 t3 t4 t87 t94 t96 H) (S22_3 call t0 t3 t4 t87 t94 U H)
noncomputable def S22_5 (call : CallFn) (t0 t3 t4 : AV) (H : AHeap) : R :=
  pFa 3 t3 H fun t61 H =>
  ldK .none H t61 fun t62 H =>
  pIa 4 t62 (.int .i64 (.ofNat 2)) H fun t63 H =>
  ldK (.some 4) H t63 fun t64 H =>
  pC call 55 [t0, t64] H fun _ H =>
  pO (aNil t0) H fun t68 H =>
  pFa 6 t68 H fun t69 H =>
  ldK .none H t69 fun t70 H =>
  pO (aNil t0) H fun t72 H =>
  pFa 6 t72 H fun t73 H =>
  ldK .none H t73 fun t74 H =>
  pO (aLen .sl H t74) H fun t75 H =>
  pSub t75 (.int .i64 (.ofNat 1)) H fun t76 H =>
  pO (aSlice 1 H t70 .none (.some t76) .none) H fun t77 H =>
  pO (aNil t0) H fun t78 H =>
  pFa 6 t78 H fun t79 H =>
  stK 1 H t79 t77 fun _ H =>
  pO (aNil t0) H fun t81 H =>
  pFa 7 t81 H fun t82 H =>
  ldK .none H t82 fun t83 H =>
  pSub t83 (.int .i64 (.ofNat 1)) H fun t84 H =>
  pO (aNil t0) H fun t85 H =>
  pFa 7 t85 H fun t86 H =>
  stK 1 H t86 t84 fun _ H =>
  pO (aNil t0) H fun t89 H =>
  pFa 8 t89 H fun t90 H =>
  pFa 0 t90 H fun t91 H =>
  ldK .none H t91 fun t92 H =>
  pEql t92 (.str [110, 111, 110, 101]) H fun t93 H =>
  guardA t93 false (pFa 3 t3 H fun t95 H =>
  S22_4 call t0 t3 t4 t0 t93 t95 H) (S22_4 call t0 t3 t4 t0 t93 U H)
noncomputable def S22_6 (call : CallFn) (n : Nat) : AV → AV → AV → AV → AV → AV → AHeap → R :=
  Nat.rec (motive := fun _ => AV → AV → AV → AV → AV → AV → AHeap → R) (fun _ _ _ _ _ _ _ => none) (fun _ q0 t0 t3 t4 t45 t46 t47 H => pLss t47 t46 H fun t48 H =>
  onBool t48 (pIa 4 t45 t47 H fun t49 H =>
  ldK (.some 4) H t49 fun t50 H =>
  pNew [(.str []), (.str []), (.int .i64 (.ofNat 0)), .nilsl] H fun t6 H =>
  stK 4 H t6 t50 fun _ H =>
  pFa 1 t6 H fun t52 H =>
  ldK .none H t52 fun t53 H =>
  pFa 3 t6 H fun t54 H =>
  ldK .none H t54 fun t55 H =>
  pIa 4 t55 (.int .i64 (.ofNat 0)) H fun t56 H =>
  ldK (.some 4) H t56 fun t57 H =>
  pC call 54 [t0, t53, t57] H fun _ H =>
  pAdd t47 (.int .i64 (.ofNat 1)) H fun t59 H =>
  q0 t0 t3 t4 t45 t46 t59 H) (S22_5 call t0 t3 t4 H)) n
noncomputable def S22_7 (call : CallFn) (t0 t1 : AV) (H : AHeap) : R :=
  pBox t1 H fun t3 H =>
  pO (aNil t0) H fun t8 H =>
  pFa 8 t8 H fun t9 H =>
  ldK (.some 4) H t9 fun t10 H =>
  pNew [(.str []), (.str []), (.int .i64 (.ofNat 0)), .nilsl] H fun t4 H =>
  stK 4 H t4 t10 fun _ H =>
  pFa 3 t3 H fun t12 H =>
  ldK .none H t12 fun t13 H =>
  pIa 4 t13 (.int .i64 (.ofNat 1)) H fun t14 H =>
  ldK (.some 4) H t14 fun t15 H =>
  pO (aNil t0) H fun t16 H =>
  pFa 8 t16 H fun t17 H =>
  stK 4 H t17 t15 fun _ H =>
  pFa 3 t3 H fun t19 H =>
  ldK .none H t19 fun t20 H =>
  pIa 4 t20 (.int .i64 (.ofNat 0)) H fun t21 H =>
  pFa 3 t21 H fun t22 H =>
  ldK .none H t22 fun t23 H =>
  pC call 18 [t0, t23] H fun _ H =>
  pO (aNil t0) H fun t26 H =>
  pFa 7 t26 H fun t27 H =>
  ldK .none H t27 fun t28 H =>
  pAdd t28 (.int .i64 (.ofNat 1)) H fun t29 H =>
  pO (aNil t0) H fun t30 H =>
  pFa 7 t30 H fun t31 H =>
  stK 1 H t31 t29 fun _ H =>
  pO (aNil t0) H fun t34 H =>
  pFa 6 t34 H fun t35 H =>
  ldK .none H t35 fun t36 H =>
  pN (aBsl 1 1 [.nilsl] [(0, 1, .nilsl)]) H fun t37 H =>
  pW (aApp 1 24 H t36 t37) fun t38 H =>
  pO (aNil t0) H fun t39 H =>
  pFa 6 t39 H fun t40 H =>
  stK 1 H t40 t38 fun _ H =>
  pFa 3 t3 H fun t41 H =>
  ldK .none H t41 fun t42 H =>
  pIa 4 t42 (.int .i64 (.ofNat 0)) H fun t43 H =>
  pFa 3 t43 H fun t44 H =>
  ldK .none H t44 fun t45 H =>
  pO (aLen .sl H t45) H fun t46 H =>
  S22_6 call 1000000 t0 t3 t4 t45 t46 (.int .i64 (.ofNat 0)) H
noncomputable def S22 : Ff := ⟨fun call l H => argA2 (fun t0 t1 => S22_7 call t0 t1 H) l⟩
/- gantline/lower.address -/
noncomputable def S23_0 (_ : CallFn) (t6 t9 : AV) (H : AHeap) : R :=
  pPick t6 t9 (.bool false) H fun t10 H =>
  some (t10, H)
noncomputable def S23_1 (call : CallFn) (t0 : AV) (H : AHeap) : R :=
  pBox t0 H fun t1 H =>
  pFa 0 t1 H fun t3 H =>
  ldK .none H t3 fun t4 H =>
  pNeq t4 (.str [105, 110, 116]) H fun t5 H =>
  guardA t5 true (pFa 0 t1 H fun t7 H =>
  ldK .none H t7 fun t8 H =>
  pNeq t8 (.str [98, 111, 111, 108]) H fun t9 H =>
  S23_0 call t5 t9 H) (S23_0 call t5 U H)
noncomputable def S23 : Ff := ⟨fun call l H => argA1 (fun t0 => S23_1 call t0 H) l⟩
/- (*gantline/lower.builder).fresh -/
noncomputable def S25_0 (_ : CallFn) (t0 t1 : AV) (H : AHeap) : R :=
  pO (aNil t0) H fun t41 H =>
  pFa 2 t41 H fun t42 H =>
  ldK .none H t42 fun t43 H =>
  pN (aBsl 1 1 [(.bool false)] [(0, 1, t1)]) H fun t45 H =>
  pO (aNil t0) H fun t48 H =>
  pFa 3 t48 H fun t49 H =>
  ldK .none H t49 fun t50 H =>
  pN (aBsl 1 1 [(.bool false)] [(0, 1, (.bool true))]) H fun t51 H =>
  pW (aApp 1 1 H t43 t45) fun t46 H =>
  andR (andB (ckV (aLoad .none H t49) t50) true) (
  pW (aApp 1 1 H t50 t51) fun t52 H =>
  pO (aNil t0) H fun t53 H =>
  pFa 2 t53 H fun t54 H =>
  stK 1 H t54 t46 fun _ H =>
  pO (aNil t0) H fun t55 H =>
  pFa 3 t55 H fun t56 H =>
  stK 1 H t56 t52 fun _ H =>
  pO (aNil t0) H fun t58 H =>
  pFa 2 t58 H fun t59 H =>
  ldK .none H t59 fun t60 H =>
  pO (aLen .sl H t60) H fun t61 H =>
  pSub t61 (.int .i64 (.ofNat 1)) H fun t62 H =>
  some (t62, H))
noncomputable def S25_2 (_ : CallFn) (q0 : AV → AV → AV → AV → AV → AHeap → R) (t0 t1 t5 t10 t11 t12 t19 t28 : AV) (H : AHeap) : R :=
  pPick t19 t28 (.bool false) H fun t29 H =>
  onBool t29 (pO (aNil t0) H fun t31 H =>
  pFa 3 t31 H fun t32 H =>
  ldK .none H t32 fun t33 H =>
  pIa 1 t33 t5 H fun t35 H =>
  stK 1 H t35 (.bool true) fun _ H =>
  some (t5, H)) (pAdd t12 (.int .i64 (.ofNat 1)) H fun t37 H =>
  q0 t0 t1 t10 t11 t37 H)
noncomputable def S25_1 (call : CallFn) (n : Nat) : AV → AV → AV → AV → AV → AHeap → R :=
  Nat.rec (motive := fun _ => AV → AV → AV → AV → AV → AHeap → R) (fun _ _ _ _ _ _ => none) (fun _ q0 t0 t1 t10 t11 t12 H => pLss t12 t11 H fun t13 H =>
  onBool t13 (pIa 1 t10 t12 H fun t15 H =>
  ldK .none H t15 fun t16 H =>
  pO (aUn .not t16) H fun t18 H =>
  guardA t18 true (pO (aNil t0) H fun t21 H =>
  pFa 2 t21 H fun t22 H =>
  ldK .none H t22 fun t23 H =>
  pIa 1 t23 t12 H fun t25 H =>
  ldK .none H t25 fun t26 H =>
  pO (aEq false .bool t26 t1) H fun t28 H =>
  S25_2 call q0 t0 t1 t12 t10 t11 t12 t18 t28 H) (S25_2 call q0 t0 t1 t12 t10 t11 t12 t18 U H)) (S25_0 call t0 t1 H)) n
noncomputable def S25_3 (call : CallFn) (t0 t1 : AV) (H : AHeap) : R :=
  pO (aNil t0) H fun t8 H =>
  pFa 3 t8 H fun t9 H =>
  ldK .none H t9 fun t10 H =>
  pO (aLen .sl H t10) H fun t11 H =>
  S25_1 call 1000000 t0 t1 t10 t11 (.int .i64 (.ofNat 0)) H
noncomputable def S25 : Ff := ⟨fun call l H => argA2 (fun t0 t1 => S25_3 call t0 t1 H) l⟩
/- (*gantline/lower.builder).stmts -/
noncomputable def S27_0 (_ : CallFn) (t28 t44 t50 : AV) (H : AHeap) : R :=
  pPick t44 (.bool true) t50 H fun t51 H =>
  pO (aNil t28) H fun t52 H =>
  pFa 10 t52 H fun t53 H =>
  stK 1 H t53 t51 fun _ H =>
  some (.tup [], H)
noncomputable def S27_1 (call : CallFn) (t28 t44 t49 : AV) (H : AHeap) : R :=
  guardA t44 false (pGtr t49 (.int .i64 (.ofNat 248)) H fun t50 H =>
  S27_0 call t28 t44 t50 H) (S27_0 call t28 t44 U H)
noncomputable def S27_2 (call : CallFn) (t28 t44 t48 : AV) (H : AHeap) : R :=
  guardA t44 false (pO (aLen .sl H t48) H fun t49 H =>
  S27_1 call t28 t44 t49 H) (S27_1 call t28 t44 U H)
noncomputable def S27_3 (call : CallFn) (t28 t44 t47 : AV) (H : AHeap) : R :=
  guardA t44 false (ldK .none H t47 fun t48 H =>
  S27_2 call t28 t44 t48 H) (S27_2 call t28 t44 U H)
noncomputable def S27_4 (call : CallFn) (t28 t44 t46 : AV) (H : AHeap) : R :=
  guardA t44 false (pFa 2 t46 H fun t47 H =>
  S27_3 call t28 t44 t47 H) (S27_3 call t28 t44 U H)
noncomputable def S27_5 (call : CallFn) (t28 t44 t45 : AV) (H : AHeap) : R :=
  guardA t44 false (pO (aNil t45) H fun t46 H =>
  S27_4 call t28 t44 t46 H) (S27_4 call t28 t44 U H)
noncomputable def S27_6 (call : CallFn) (t0 t28 t36 t42 : AV) (H : AHeap) : R :=
  pPick t36 (.bool true) t42 H fun t43 H =>
  guardA t43 false (S27_5 call t28 t43 t0 H) (S27_5 call t28 t43 U H)
noncomputable def S27_7 (call : CallFn) (t0 t28 t36 t41 : AV) (H : AHeap) : R :=
  guardA t36 false (pGtr t41 (.int .i64 (.ofNat 2048)) H fun t42 H =>
  S27_6 call t0 t28 t36 t42 H) (S27_6 call t0 t28 t36 U H)
noncomputable def S27_8 (call : CallFn) (t0 t28 t36 t40 : AV) (H : AHeap) : R :=
  guardA t36 false (pO (aLen .sl H t40) H fun t41 H =>
  S27_7 call t0 t28 t36 t41 H) (S27_7 call t0 t28 t36 U H)
noncomputable def S27_9 (call : CallFn) (t0 t28 t36 t39 : AV) (H : AHeap) : R :=
  guardA t36 false (ldK .none H t39 fun t40 H =>
  S27_8 call t0 t28 t36 t40 H) (S27_8 call t0 t28 t36 U H)
noncomputable def S27_10 (call : CallFn) (t0 t28 t36 t38 : AV) (H : AHeap) : R :=
  guardA t36 false (pFa 4 t38 H fun t39 H =>
  S27_9 call t0 t28 t36 t39 H) (S27_9 call t0 t28 t36 U H)
noncomputable def S27_11 (call : CallFn) (t0 t28 t36 t37 : AV) (H : AHeap) : R :=
  guardA t36 false (pO (aNil t37) H fun t38 H =>
  S27_10 call t0 t28 t36 t38 H) (S27_10 call t0 t28 t36 U H)
noncomputable def S27_12 (call : CallFn) (t0 : AV) (H : AHeap) : R :=
  pO (aNil t0) H fun t26 H =>
  pFa 0 t26 H fun t27 H =>
  ldK .none H t27 fun t28 H =>
  pO (aNil t0) H fun t30 H =>
  pFa 0 t30 H fun t31 H =>
  ldK .none H t31 fun t32 H =>
  pO (aNil t32) H fun t33 H =>
  pFa 10 t33 H fun t34 H =>
  ldK .none H t34 fun t35 H =>
  guardA t35 false (S27_11 call t0 t28 t35 t0 H) (S27_11 call t0 t28 t35 U H)
noncomputable def S27_14 (_ : CallFn) (q0 : AV → AV → AV → AV → AHeap → R) (t0 t7 t8 t9 : AV) (H : AHeap) : R :=
  pAdd t9 (.int .i64 (.ofNat 1)) H fun t24 H =>
  q0 t0 t7 t8 t24 H
noncomputable def S27_13 (call : CallFn) (n : Nat) : AV → AV → AV → AV → AHeap → R :=
  Nat.rec (motive := fun _ => AV → AV → AV → AV → AHeap → R) (fun _ _ _ _ _ => none) (fun _ q0 t0 t7 t8 t9 H => pLss t9 t8 H fun t10 H =>
  onBool t10 (pIa 4 t7 t9 H fun t11 H =>
  ldK (.some 4) H t11 fun t12 H =>
  pNew [(.str []), (.str []), (.int .i64 (.ofNat 0)), .nilsl] H fun t5 H =>
  stK 4 H t5 t12 fun _ H =>
  pO (aNil t0) H fun t14 H =>
  pFa 0 t14 H fun t15 H =>
  ldK .none H t15 fun t16 H =>
  pO (aNil t16) H fun t17 H =>
  pFa 10 t17 H fun t18 H =>
  ldK .none H t18 fun t19 H =>
  pO (aUn .not t19) H fun t20 H =>
  onBool t20 (ldK (.some 4) H t5 fun t22 H =>
  pC call 59 [t0, t22] H fun _ H =>
  S27_14 call q0 t0 t7 t8 t9 H) (S27_14 call q0 t0 t7 t8 t9 H)) (S27_12 call t0 H)) n
noncomputable def S27_15 (call : CallFn) (t0 t1 : AV) (H : AHeap) : R :=
  pBox t1 H fun t3 H =>
  pFa 3 t3 H fun t6 H =>
  ldK .none H t6 fun t7 H =>
  pO (aLen .sl H t7) H fun t8 H =>
  S27_13 call 1000000 t0 t7 t8 (.int .i64 (.ofNat 0)) H
noncomputable def S27 : Ff := ⟨fun call l H => argA2 (fun t0 t1 => S27_15 call t0 t1 H) l⟩
/- (*gantline/lower.builder).emit -/
noncomputable def S28_0 (_ : CallFn) (t0 t1 : AV) (H : AHeap) : R :=
  pBox t1 H fun t3 H =>
  pO (aNil t0) H fun t7 H =>
  pFa 4 t7 H fun t8 H =>
  ldK .none H t8 fun t9 H =>
  ldK (.some 5) H t3 fun t10 H =>
  pN (aBsl 5 1 [(.int .i64 (.ofNat 0)), (.int .i64 (.ofNat 0)), (.int .i64 (.ofNat 0)), (.int .i64 (.ofNat 0)), (.int .i64 (.ofNat 0))] [(0, 5, t10)]) H fun t11 H =>
  pW (aApp 5 40 H t9 t11) fun t12 H =>
  pO (aNil t0) H fun t13 H =>
  pFa 4 t13 H fun t14 H =>
  stK 1 H t14 t12 fun _ H =>
  pO (aNil t0) H fun t16 H =>
  pFa 4 t16 H fun t17 H =>
  ldK .none H t17 fun t18 H =>
  pO (aLen .sl H t18) H fun t19 H =>
  pSub t19 (.int .i64 (.ofNat 1)) H fun t20 H =>
  some (t20, H)
noncomputable def S28 : Ff := ⟨fun call l H => argA2 (fun t0 t1 => S28_0 call t0 t1 H) l⟩
/- gantline/lower.result -/
noncomputable def S29_0 (call : CallFn) (t0 : AV) (H : AHeap) : R :=
  pBox t0 H fun t1 H =>
  pFa 0 t1 H fun t4 H =>
  ldK .none H t4 fun t5 H =>
  pEql t5 (.str [110, 111, 110, 101]) H fun t6 H =>
  onBool t6 (some ((.int .i64 (.ofNat 0)), H)) (ldK (.some 4) H t1 fun t8 H =>
  pC call 23 [t8] H fun t9 H =>
  onBool t9 (some ((.int .i64 (.ofNat 2)), H)) (some ((.int .i64 (.ofNat 1)), H)))
noncomputable def S29 : Ff := ⟨fun call l H => argA1 (fun t0 => S29_0 call t0 H) l⟩
/- gantline/verify.module -/
noncomputable def S30_0 (_ : CallFn) (t79 t82 : AV) (H : AHeap) : R :=
  pPick t79 (.bool true) t82 H fun t83 H =>
  onBool t83 (some ((.int .i64 (.ofNat 2)), H)) (some ((.int .i64 (.ofNat 0)), H))
noncomputable def S30_1 (call : CallFn) (t5 t74 t77 : AV) (H : AHeap) : R :=
  pPick t74 (.bool true) t77 H fun t78 H =>
  guardA t78 false (pFa 3 t5 H fun t80 H =>
  ldK .none H t80 fun t81 H =>
  pNeq t81 (.int .i64 (.ofNat 0)) H fun t82 H =>
  S30_0 call t78 t82 H) (S30_0 call t78 U H)
noncomputable def S30_2 (call : CallFn) (t1 t57 t63 : AV) (H : AHeap) : R :=
  pPick t57 (.bool true) t63 H fun t64 H =>
  onBool t64 (some ((.int .i64 (.ofNat 2)), H)) (pFa 4 t1 H fun t65 H =>
  ldK .none H t65 fun t66 H =>
  pFa 5 t1 H fun t67 H =>
  ldK .none H t67 fun t68 H =>
  pIa 7 t66 t68 H fun t69 H =>
  ldK (.some 7) H t69 fun t70 H =>
  pNew [(.int .i64 (.ofNat 0)), (.int .i64 (.ofNat 0)), (.int .i64 (.ofNat 0)), (.int .i64 (.ofNat 0)), .nilsl, .nilsl, .nilsl] H fun t5 H =>
  stK 7 H t5 t70 fun _ H =>
  pFa 0 t5 H fun t71 H =>
  ldK .none H t71 fun t72 H =>
  pNeq t72 (.int .i64 (.ofNat 0)) H fun t73 H =>
  guardA t73 false (pFa 1 t5 H fun t75 H =>
  ldK .none H t75 fun t76 H =>
  pNeq t76 (.int .i64 (.ofNat 0)) H fun t77 H =>
  S30_1 call t5 t73 t77 H) (S30_1 call t5 t73 U H))
noncomputable def S30_3 (call : CallFn) (t1 t47 t51 : AV) (H : AHeap) : R :=
  pPick t47 (.bool true) t51 H fun t52 H =>
  onBool t52 (some ((.int .i64 (.ofNat 1)), H)) (pFa 5 t1 H fun t54 H =>
  ldK .none H t54 fun t55 H =>
  pLss t55 (.int .i64 (.ofNat 0)) H fun t56 H =>
  guardA t56 false (pFa 5 t1 H fun t58 H =>
  ldK .none H t58 fun t59 H =>
  pFa 4 t1 H fun t60 H =>
  ldK .none H t60 fun t61 H =>
  pO (aLen .sl H t61) H fun t62 H =>
  pGeq t59 t62 H fun t63 H =>
  S30_2 call t1 t56 t63 H) (S30_2 call t1 t56 U H))
noncomputable def S30_4 (call : CallFn) (t1 t41 t45 : AV) (H : AHeap) : R :=
  pPick t41 (.bool true) t45 H fun t46 H =>
  guardA t46 false (pFa 4 t1 H fun t48 H =>
  ldK .none H t48 fun t49 H =>
  pO (aLen .sl H t49) H fun t50 H =>
  pLss t50 (.int .i64 (.ofNat 1)) H fun t51 H =>
  S30_3 call t1 t46 t51 H) (S30_3 call t1 t46 U H)
noncomputable def S30_5 (call : CallFn) (t1 t35 t39 : AV) (H : AHeap) : R :=
  pPick t35 (.bool true) t39 H fun t40 H =>
  guardA t40 false (pFa 4 t1 H fun t42 H =>
  ldK .none H t42 fun t43 H =>
  pO (aLen .sl H t43) H fun t44 H =>
  pGtr t44 (.int .i64 (.ofNat 128)) H fun t45 H =>
  S30_4 call t1 t40 t45 H) (S30_4 call t1 t40 U H)
noncomputable def S30_6 (call : CallFn) (t1 t29 t33 : AV) (H : AHeap) : R :=
  pPick t29 (.bool true) t33 H fun t34 H =>
  guardA t34 false (pFa 3 t1 H fun t36 H =>
  ldK .none H t36 fun t37 H =>
  pO (aLen .sl H t37) H fun t38 H =>
  pGtr t38 (.int .i64 (.ofNat 1024)) H fun t39 H =>
  S30_5 call t1 t34 t39 H) (S30_5 call t1 t34 U H)
noncomputable def S30_7 (call : CallFn) (t1 t4 t23 t27 : AV) (H : AHeap) : R :=
  pPick t23 (.bool true) t27 H fun t28 H =>
  guardA t28 false (pFa 2 t1 H fun t30 H =>
  ldK .none H t30 fun t31 H =>
  pC call 65 [t31, t4] H fun t33 H =>
  S30_6 call t1 t28 t33 H) (S30_6 call t1 t28 U H)
noncomputable def S30_8 (call : CallFn) (t1 t4 t17 t21 : AV) (H : AHeap) : R :=
  pPick t17 (.bool true) t21 H fun t22 H =>
  guardA t22 false (pFa 2 t1 H fun t24 H =>
  ldK .none H t24 fun t25 H =>
  pO (aLen .sl H t25) H fun t26 H =>
  pGtr t26 (.int .i64 (.ofNat 4096)) H fun t27 H =>
  S30_7 call t1 t4 t22 t27 H) (S30_7 call t1 t4 t22 U H)
noncomputable def S30_9 (call : CallFn) (t1 t4 t11 t15 : AV) (H : AHeap) : R :=
  pPick t11 (.bool true) t15 H fun t16 H =>
  guardA t16 false (pFa 1 t1 H fun t18 H =>
  ldK .none H t18 fun t19 H =>
  pO (aLen .sl H t19) H fun t20 H =>
  pGtr t20 (.int .i64 (.ofNat 256)) H fun t21 H =>
  S30_8 call t1 t4 t16 t21 H) (S30_8 call t1 t4 t16 U H)
noncomputable def S30_10 (call : CallFn) (t0 : AV) (H : AHeap) : R :=
  pBox t0 H fun t1 H =>
  pFa 0 t1 H fun t7 H =>
  ldK .none H t7 fun t8 H =>
  pC call 64 [t8, (.fn 60 [] [])] H fun t10 H =>
  guardA t10 false (pFa 0 t1 H fun t12 H =>
  ldK .none H t12 fun t13 H =>
  pO (aLen .sl H t13) H fun t14 H =>
  pGtr t14 (.int .i64 (.ofNat 1024)) H fun t15 H =>
  S30_9 call t1 (.fn 62 [] []) t10 t15 H) (S30_9 call t1 (.fn 62 [] []) t10 U H)
noncomputable def S30 : Ff := ⟨fun call l H => argA1 (fun t0 => S30_10 call t0 H) l⟩
/- gantline/verify.whole -/
noncomputable def S31_0 (_ : CallFn) (t73 t78 : AV) (H : AHeap) : R :=
  pPick t73 t78 (.bool false) H fun t79 H =>
  some (t79, H)
noncomputable def S31_1 (call : CallFn) (t1 t3 t69 t71 : AV) (H : AHeap) : R :=
  pPick t69 t71 (.bool false) H fun t72 H =>
  guardA t72 true (pFa 6 t1 H fun t74 H =>
  ldK .none H t74 fun t75 H =>
  pO (aLen .sl H t75) H fun t76 H =>
  pEql t76 t3 H fun t78 H =>
  S31_0 call t72 t78 H) (S31_0 call t72 U H)
noncomputable def S31_2 (call : CallFn) (t1 t3 t65 t67 : AV) (H : AHeap) : R :=
  pPick t65 t67 (.bool false) H fun t68 H =>
  guardA t68 true (pLeq t3 (.int .i64 (.ofNat 4096)) H fun t71 H =>
  S31_1 call t1 t3 t68 t71 H) (S31_1 call t1 t3 t68 U H)
noncomputable def S31_3 (call : CallFn) (t1 t3 t60 t63 : AV) (H : AHeap) : R :=
  pPick t60 t63 (.bool false) H fun t64 H =>
  guardA t64 true (pGeq t3 (.int .i64 (.ofNat 1)) H fun t67 H =>
  S31_2 call t1 t3 t64 t67 H) (S31_2 call t1 t3 t64 U H)
noncomputable def S31_4 (call : CallFn) (t1 t3 t55 t58 : AV) (H : AHeap) : R :=
  pPick t55 t58 (.bool false) H fun t59 H =>
  guardA t59 true (pFa 3 t1 H fun t61 H =>
  ldK .none H t61 fun t62 H =>
  pLeq t62 (.int .i64 (.ofNat 2)) H fun t63 H =>
  S31_3 call t1 t3 t59 t63 H) (S31_3 call t1 t3 t59 U H)
noncomputable def S31_5 (call : CallFn) (t1 t3 t47 t53 : AV) (H : AHeap) : R :=
  pPick t47 t53 (.bool false) H fun t54 H =>
  guardA t54 true (pFa 3 t1 H fun t56 H =>
  ldK .none H t56 fun t57 H =>
  pGeq t57 (.int .i64 (.ofNat 0)) H fun t58 H =>
  S31_4 call t1 t3 t54 t58 H) (S31_4 call t1 t3 t54 U H)
noncomputable def S31_6 (call : CallFn) (t1 t3 t37 t45 : AV) (H : AHeap) : R :=
  pPick t37 t45 (.bool false) H fun t46 H =>
  guardA t46 true (pFa 4 t1 H fun t48 H =>
  ldK .none H t48 fun t49 H =>
  pO (aLen .sl H t49) H fun t50 H =>
  pFa 2 t1 H fun t51 H =>
  ldK .none H t51 fun t52 H =>
  pEql t50 t52 H fun t53 H =>
  S31_5 call t1 t3 t46 t53 H) (S31_5 call t1 t3 t46 U H)
noncomputable def S31_7 (call : CallFn) (t1 t3 t30 t35 : AV) (H : AHeap) : R :=
  pPick t30 t35 (.bool false) H fun t36 H =>
  guardA t36 true (pFa 1 t1 H fun t38 H =>
  ldK .none H t38 fun t39 H =>
  pFa 2 t1 H fun t40 H =>
  ldK .none H t40 fun t41 H =>
  pFa 0 t1 H fun t42 H =>
  ldK .none H t42 fun t43 H =>
  pSub t41 t43 H fun t44 H =>
  pLeq t39 t44 H fun t45 H =>
  S31_6 call t1 t3 t36 t45 H) (S31_6 call t1 t3 t36 U H)
noncomputable def S31_8 (call : CallFn) (t1 t3 t25 t28 : AV) (H : AHeap) : R :=
  pPick t25 t28 (.bool false) H fun t29 H =>
  guardA t29 true (pFa 0 t1 H fun t31 H =>
  ldK .none H t31 fun t32 H =>
  pFa 2 t1 H fun t33 H =>
  ldK .none H t33 fun t34 H =>
  pLeq t32 t34 H fun t35 H =>
  S31_7 call t1 t3 t29 t35 H) (S31_7 call t1 t3 t29 U H)
noncomputable def S31_9 (call : CallFn) (t1 t3 t20 t23 : AV) (H : AHeap) : R :=
  pPick t20 t23 (.bool false) H fun t24 H =>
  guardA t24 true (pFa 2 t1 H fun t26 H =>
  ldK .none H t26 fun t27 H =>
  pLeq t27 (.int .i64 (.ofNat 64)) H fun t28 H =>
  S31_8 call t1 t3 t24 t28 H) (S31_8 call t1 t3 t24 U H)
noncomputable def S31_10 (call : CallFn) (t1 t3 t15 t18 : AV) (H : AHeap) : R :=
  pPick t15 t18 (.bool false) H fun t19 H =>
  guardA t19 true (pFa 2 t1 H fun t21 H =>
  ldK .none H t21 fun t22 H =>
  pGeq t22 (.int .i64 (.ofNat 0)) H fun t23 H =>
  S31_9 call t1 t3 t19 t23 H) (S31_9 call t1 t3 t19 U H)
noncomputable def S31_11 (call : CallFn) (t1 t3 t10 t13 : AV) (H : AHeap) : R :=
  pPick t10 t13 (.bool false) H fun t14 H =>
  guardA t14 true (pFa 1 t1 H fun t16 H =>
  ldK .none H t16 fun t17 H =>
  pLeq t17 (.int .i64 (.ofNat 62)) H fun t18 H =>
  S31_10 call t1 t3 t14 t18 H) (S31_10 call t1 t3 t14 U H)
noncomputable def S31_12 (call : CallFn) (t0 : AV) (H : AHeap) : R :=
  pBox t0 H fun t1 H =>
  pFa 5 t1 H fun t4 H =>
  ldK .none H t4 fun t5 H =>
  pO (aLen .sl H t5) H fun t6 H =>
  pFa 0 t1 H fun t7 H =>
  ldK .none H t7 fun t8 H =>
  pGeq t8 (.int .i64 (.ofNat 0)) H fun t9 H =>
  guardA t9 true (pFa 1 t1 H fun t11 H =>
  ldK .none H t11 fun t12 H =>
  pGeq t12 (.int .i64 (.ofNat 0)) H fun t13 H =>
  S31_11 call t1 t6 t9 t13 H) (S31_11 call t1 t6 t9 U H)
noncomputable def S31 : Ff := ⟨fun call l H => argA1 (fun t0 => S31_12 call t0 H) l⟩
/- gantline/live.Maps -/
noncomputable def S32_0 (_ : CallFn) (n : Nat) : AV → AV → AV → AV → AHeap → R :=
  Nat.rec (motive := fun _ => AV → AV → AV → AV → AHeap → R) (fun _ _ _ _ _ => none) (fun _ q0 t5 t8 t34 t35 H => pLss t35 t34 H fun t36 H =>
  onBool t36 (pIa 1 t8 t35 H fun t40 H =>
  ldK .none H t40 fun t41 H =>
  pAnd t41 t5 H fun t43 H =>
  pIa 1 t8 t35 H fun t44 H =>
  stK 1 H t44 t43 fun _ H =>
  pAdd t35 (.int .i64 (.ofNat 1)) H fun t45 H =>
  q0 t5 t8 t34 t45 H) (some (t8, H))) n
noncomputable def S32_1 (call : CallFn) (t2 t3 t5 : AV) (H : AHeap) : R :=
  ldK (.some 6) H t2 fun t30 H =>
  ldK (.some 7) H t3 fun t31 H =>
  pC call 66 [t30, t31] H fun t32 H =>
  pO (aLen .sl H t32) H fun t34 H =>
  S32_0 call 1000000 t5 t32 t34 (.int .i64 (.ofNat 0)) H
noncomputable def S32_3 (_ : CallFn) (q1 : AV → AV → AV → AV → AV → AV → AHeap → R) (t2 t3 t5 t16 t17 t18 : AV) (H : AHeap) : R :=
  pAdd t18 (.int .i64 (.ofNat 1)) H fun t29 H =>
  q1 t2 t3 t5 t16 t17 t29 H
noncomputable def S32_2 (call : CallFn) (n : Nat) : AV → AV → AV → AV → AV → AV → AHeap → R :=
  Nat.rec (motive := fun _ => AV → AV → AV → AV → AV → AV → AHeap → R) (fun _ _ _ _ _ _ _ => none) (fun _ q1 t2 t3 t5 t16 t17 t18 H => pLss t18 t17 H fun t19 H =>
  onBool t19 (pIa 1 t16 t18 H fun t21 H =>
  ldK .none H t21 fun t22 H =>
  onBool t22 (pConv .u64 t18 H fun t26 H =>
  pO (aBin .shl (.int .u64 (.ofNat 1)) t26) H fun t27 H =>
  pOr t5 t27 H fun t28 H =>
  S32_3 call q1 t2 t3 t28 t16 t17 t18 H) (S32_3 call q1 t2 t3 t5 t16 t17 t18 H)) (S32_1 call t2 t3 t5 H)) n
noncomputable def S32_4 (call : CallFn) (t0 t1 : AV) (H : AHeap) : R :=
  pBox t0 H fun t2 H =>
  pBox t1 H fun t3 H =>
  pFa 4 t3 H fun t10 H =>
  ldK .none H t10 fun t11 H =>
  pFa 4 t3 H fun t12 H =>
  ldK .none H t12 fun t13 H =>
  pO (aLen .sl H t13) H fun t14 H =>
  pO (aMinMax false t14 (.int .i64 (.ofNat 64))) H fun t15 H =>
  pO (aSlice 1 H t11 .none (.some t15) .none) H fun t16 H =>
  pO (aLen .sl H t16) H fun t17 H =>
  S32_2 call 1000000 t2 t3 (.int .u64 (.ofNat 0)) t16 t17 (.int .i64 (.ofNat 0)) H
noncomputable def S32 : Ff := ⟨fun call l H => argA2 (fun t0 t1 => S32_4 call t0 t1 H) l⟩
/- slices.Contains[[]int,int] -/
noncomputable def S33_0 (call : CallFn) (t0 t1 : AV) (H : AHeap) : R :=
  pC call 67 [t0, t1] H fun t7 H =>
  pGeq t7 (.int .i64 (.ofNat 0)) H fun t8 H =>
  some (t8, H)
noncomputable def S33 : Ff := ⟨fun call l H => argA2 (fun t0 t1 => S33_0 call t0 t1 H) l⟩
/- (*gantline/verify.checker).rule -/
noncomputable def S34_0 (call : CallFn) (t0 t1 : AV) (H : AHeap) : R :=
  pEql t1 (.int .i64 (.ofNat 4)) H fun t7 H =>
  onBool t7 (pC call 68 [t0] H fun t9 H =>
  some (t9, H)) (pEql t1 (.int .i64 (.ofNat 5)) H fun t11 H =>
  onBool t11 (pC call 69 [t0] H fun t13 H =>
  some (t13, H)) (pEql t1 (.int .i64 (.ofNat 6)) H fun t15 H =>
  onBool t15 (pC call 70 [t0] H fun t17 H =>
  some (t17, H)) (pEql t1 (.int .i64 (.ofNat 7)) H fun t19 H =>
  onBool t19 (pC call 71 [t0] H fun t21 H =>
  some (t21, H)) (pEql t1 (.int .i64 (.ofNat 8)) H fun t23 H =>
  onBool t23 (pC call 72 [t0] H fun t25 H =>
  some (t25, H)) (pEql t1 (.int .i64 (.ofNat 9)) H fun t27 H =>
  onBool t27 (pO (aNil t0) H fun t29 H =>
  pFa 6 t29 H fun t30 H =>
  pFa 6 t30 H fun t31 H =>
  ldK .none H t31 fun t32 H =>
  pO (aNil t0) H fun t34 H =>
  pFa 16 t34 H fun t35 H =>
  ldK .none H t35 fun t36 H =>
  pIa 1 t32 t36 H fun t37 H =>
  ldK .none H t37 fun t38 H =>
  pO (aNil t0) H fun t40 H =>
  pFa 13 t40 H fun t41 H =>
  ldK .none H t41 fun t42 H =>
  pO (aNil t0) H fun t44 H =>
  pFa 16 t44 H fun t45 H =>
  ldK .none H t45 fun t46 H =>
  pIa 1 t42 t46 H fun t47 H =>
  ldK .none H t47 fun t48 H =>
  pEql t38 t48 H fun t49 H =>
  some (t49, H)) (pC call 73 [t0] H fun t51 H =>
  some (t51, H)))))))
noncomputable def S34 : Ff := ⟨fun call l H => argA2 (fun t0 t1 => S34_0 call t0 t1 H) l⟩
/- gantline/gantlineref19.letter -/
noncomputable def S35_0 (_ : CallFn) (t17 t19 : AV) (H : AHeap) : R :=
  pPick t17 (.bool true) t19 H fun t20 H =>
  some (t20, H)
noncomputable def S35_1 (call : CallFn) (t0 t9 t15 : AV) (H : AHeap) : R :=
  pPick t9 (.bool true) t15 H fun t16 H =>
  guardA t16 false (pEql t0 (.int .u8 (.ofNat 95)) H fun t19 H =>
  S35_0 call t16 t19 H) (S35_0 call t16 U H)
noncomputable def S35_2 (call : CallFn) (t0 t9 t12 t14 : AV) (H : AHeap) : R :=
  guardA t9 false (pPick t12 t14 (.bool false) H fun t15 H =>
  S35_1 call t0 t9 t15 H) (S35_1 call t0 t9 U H)
noncomputable def S35_3 (call : CallFn) (t0 t9 t12 : AV) (H : AHeap) : R :=
  guardA t12 true (pLeq t0 (.int .u8 (.ofNat 90)) H fun t14 H =>
  S35_2 call t0 t9 t12 t14 H) (S35_2 call t0 t9 t12 U H)
noncomputable def S35_4 (call : CallFn) (t0 t5 t7 : AV) (H : AHeap) : R :=
  pPick t5 t7 (.bool false) H fun t8 H =>
  guardA t8 false (pGeq t0 (.int .u8 (.ofNat 65)) H fun t11 H =>
  S35_3 call t0 t8 t11 H) (S35_3 call t0 t8 U H)
noncomputable def S35_5 (call : CallFn) (t0 : AV) (H : AHeap) : R :=
  pGeq t0 (.int .u8 (.ofNat 97)) H fun t4 H =>
  guardA t4 true (pLeq t0 (.int .u8 (.ofNat 122)) H fun t7 H =>
  S35_4 call t0 t4 t7 H) (S35_4 call t0 t4 U H)
noncomputable def S35 : Ff := ⟨fun call l H => argA1 (fun t0 => S35_5 call t0 H) l⟩
/- gantline/gantlineref19.digit -/
noncomputable def S36_0 (_ : CallFn) (t5 t7 : AV) (H : AHeap) : R :=
  pPick t5 t7 (.bool false) H fun t8 H =>
  some (t8, H)
noncomputable def S36_1 (call : CallFn) (t0 : AV) (H : AHeap) : R :=
  pGeq t0 (.int .u8 (.ofNat 48)) H fun t4 H =>
  guardA t4 true (pLeq t0 (.int .u8 (.ofNat 57)) H fun t7 H =>
  S36_0 call t4 t7 H) (S36_0 call t4 U H)
noncomputable def S36 : Ff := ⟨fun call l H => argA1 (fun t0 => S36_1 call t0 H) l⟩
/- gantline/gantlineref19.Kept -/
noncomputable def S37_0 (_ : CallFn) (n : Nat) : AV → AV → AV → AHeap → R :=
  Nat.rec (motive := fun _ => AV → AV → AV → AHeap → R) (fun _ _ _ _ => none) (fun _ q0 t0 t3 t4 H => pO (aLen .sl H t3) H fun t8 H =>
  pLss t4 t8 H fun t9 H =>
  onBool t9 (pIa 1 t3 t4 H fun t14 H =>
  ldK .none H t14 fun t15 H =>
  pEql t15 t0 H fun t17 H =>
  onBool t17 (some ((.bool true), H)) (pAdd t4 (.int .i64 (.ofNat 1)) H fun t11 H =>
  q0 t0 t3 t11 H)) (some ((.bool false), H))) n
noncomputable def S37_1 (call : CallFn) (t0 : AV) (H : AHeap) : R :=
  pN (aBsl 1 24 [(.str [])] [(0, 1, (.str [115, 116, 114, 117, 99, 116])), (1, 1, (.str [118, 97, 114])), (2, 1, (.str [102, 117, 110, 99])), (3, 1, (.str [105, 110, 116])), (4, 1, (.str [98, 111, 111, 108])), (5, 1, (.str [99, 104, 97, 110])), (6, 1, (.str [105, 102])), (7, 1, (.str [101, 108, 115, 101])), (8, 1, (.str [119, 104, 105, 108, 101])), (9, 1, (.str [114, 101, 116, 117, 114, 110])), (10, 1, (.str [112, 114, 105, 110, 116])), (11, 1, (.str [103, 111])), (12, 1, (.str [115, 101, 110, 100])), (13, 1, (.str [99, 108, 111, 115, 101])), (14, 1, (.str [115, 101, 108, 101, 99, 116])), (15, 1, (.str [99, 97, 115, 101])), (16, 1, (.str [100, 101, 102, 97, 117, 108, 116])), (17, 1, (.str [114, 101, 99, 118])), (18, 1, (.str [116, 114, 117, 101])), (19, 1, (.str [102, 97, 108, 115, 101])), (20, 1, (.str [110, 105, 108])), (21, 1, (.str [110, 101, 119])), (22, 1, (.str [109, 97, 107, 101])), (23, 1, (.str [108, 101, 110]))]) H fun t5 H =>
  S37_0 call 1000000 t0 t5 (.int .i64 (.ofNat 0)) H
noncomputable def S37 : Ff := ⟨fun call l H => argA1 (fun t0 => S37_1 call t0 H) l⟩
/- gantline/gantlineref19.fits -/
noncomputable def S38_0 (_ : CallFn) (t19 t29 : AV) (H : AHeap) : R :=
  pPick t19 (.bool true) t29 H fun t30 H =>
  some (t30, H)
noncomputable def S38_1 (call : CallFn) (t19 t25 t28 : AV) (H : AHeap) : R :=
  guardA t19 false (pPick t25 t28 (.bool false) H fun t29 H =>
  S38_0 call t19 t29 H) (S38_0 call t19 U H)
noncomputable def S38_2 (call : CallFn) (t0 t3 t19 t25 : AV) (H : AHeap) : R :=
  guardA t25 true (pLeq t0 t3 H fun t28 H =>
  S38_1 call t19 t25 t28 H) (S38_1 call t19 t25 U H)
noncomputable def S38_3 (call : CallFn) (t0 : AV) (H : AHeap) : R :=
  pO (aLen .str H t0) H fun t15 H =>
  pO (aLen .str H (.str [52, 54, 49, 49, 54, 56, 54, 48, 49, 56, 52, 50, 55, 51, 56, 55, 57, 48, 51])) H fun t17 H =>
  pLss t15 t17 H fun t18 H =>
  guardA t18 false (pO (aLen .str H t0) H fun t21 H =>
  pO (aLen .str H (.str [52, 54, 49, 49, 54, 56, 54, 48, 49, 56, 52, 50, 55, 51, 56, 55, 57, 48, 51])) H fun t23 H =>
  pEql t21 t23 H fun t24 H =>
  S38_2 call t0 (.str [52, 54, 49, 49, 54, 56, 54, 48, 49, 56, 52, 50, 55, 51, 56, 55, 57, 48, 51]) t18 t24 H) (S38_2 call t0 (.str [52, 54, 49, 49, 54, 56, 54, 48, 49, 56, 52, 50, 55, 51, 56, 55, 57, 48, 51]) t18 U H)
noncomputable def S38_5 (call : CallFn) (q0 : AV → AHeap → R) (t0 t7 t10 : AV) (H : AHeap) : R :=
  pPick t7 t10 (.bool false) H fun t11 H =>
  onBool t11 (pO (aSliceS t0 (.some (.int .i64 (.ofNat 1))) .none) H fun t13 H =>
  q0 t13 H) (S38_3 call t0 H)
noncomputable def S38_4 (call : CallFn) (n : Nat) : AV → AHeap → R :=
  Nat.rec (motive := fun _ => AV → AHeap → R) (fun _ _ => none) (fun _ q0 t0 H => pO (aLen .str H t0) H fun t5 H =>
  pGtr t5 (.int .i64 (.ofNat 1)) H fun t6 H =>
  guardA t6 true (pO (aIdxS t0 (.int .i64 (.ofNat 0))) H fun t9 H =>
  pEql t9 (.int .u8 (.ofNat 48)) H fun t10 H =>
  S38_5 call q0 t0 t6 t10 H) (S38_5 call q0 t0 t6 U H)) n
noncomputable def S38 : Ff := ⟨fun call l H => argA1 (fun t0 => S38_4 call 1000000 t0 H) l⟩
/- gantline/gantlineref19.sign -/
noncomputable def S39_0 (_ : CallFn) (n : Nat) : AV → AV → AV → AHeap → R :=
  Nat.rec (motive := fun _ => AV → AV → AV → AHeap → R) (fun _ _ _ _ => none) (fun _ q0 t0 t5 t6 H => pO (aLen .str H t5) H fun t32 H =>
  pLss t6 t32 H fun t33 H =>
  onBool t33 (pO (aIdxS t0 (.int .i64 (.ofNat 0))) H fun t37 H =>
  pO (aIdxS t5 t6) H fun t40 H =>
  pEql t37 t40 H fun t41 H =>
  onBool t41 (pO (aSliceS t0 .none (.some (.int .i64 (.ofNat 1)))) H fun t43 H =>
  some (t43, H)) (pAdd t6 (.int .i64 (.ofNat 1)) H fun t35 H =>
  q0 t0 t5 t35 H)) (some ((.str []), H))) n
noncomputable def S39_2 (_ : CallFn) (q1 : AV → AV → AV → AHeap → R) (t0 t3 t4 t17 t24 : AV) (H : AHeap) : R :=
  pPick t17 t24 (.bool false) H fun t25 H =>
  onBool t25 (pIa 1 t3 t4 H fun t28 H =>
  ldK .none H t28 fun t29 H =>
  some (t29, H)) (pAdd t4 (.int .i64 (.ofNat 1)) H fun t13 H =>
  q1 t0 t3 t13 H)
noncomputable def S39_3 (call : CallFn) (q1 : AV → AV → AV → AHeap → R) (t0 t3 t4 t17 t19 t23 : AV) (H : AHeap) : R :=
  guardA t17 true (pEql t19 t23 H fun t24 H =>
  S39_2 call q1 t0 t3 t4 t17 t24 H) (S39_2 call q1 t0 t3 t4 t17 U H)
noncomputable def S39_4 (call : CallFn) (q1 : AV → AV → AV → AHeap → R) (t0 t3 t4 t17 t19 t22 : AV) (H : AHeap) : R :=
  guardA t17 true (ldK .none H t22 fun t23 H =>
  S39_3 call q1 t0 t3 t4 t17 t19 t23 H) (S39_3 call q1 t0 t3 t4 t17 t19 U H)
noncomputable def S39_5 (call : CallFn) (q1 : AV → AV → AV → AHeap → R) (t0 t3 t4 t17 t19 t20 t21 : AV) (H : AHeap) : R :=
  guardA t17 true (pIa 1 t20 t21 H fun t22 H =>
  S39_4 call q1 t0 t3 t4 t17 t19 t22 H) (S39_4 call q1 t0 t3 t4 t17 t19 U H)
noncomputable def S39_6 (call : CallFn) (q1 : AV → AV → AV → AHeap → R) (t0 t3 t4 t17 t19 t20 : AV) (H : AHeap) : R :=
  guardA t17 true (S39_5 call q1 t0 t3 t4 t17 t19 t20 t4 H) (S39_5 call q1 t0 t3 t4 t17 t19 t20 U H)
noncomputable def S39_7 (call : CallFn) (q1 : AV → AV → AV → AHeap → R) (t0 t3 t4 t17 t19 : AV) (H : AHeap) : R :=
  guardA t17 true (S39_6 call q1 t0 t3 t4 t17 t19 t3 H) (S39_6 call q1 t0 t3 t4 t17 t19 U H)
noncomputable def S39_8 (call : CallFn) (q1 : AV → AV → AV → AHeap → R) (t0 t3 t4 t17 t18 : AV) (H : AHeap) : R :=
  guardA t17 true (pO (aSliceS t18 .none (.some (.int .i64 (.ofNat 2)))) H fun t19 H =>
  S39_7 call q1 t0 t3 t4 t17 t19 H) (S39_7 call q1 t0 t3 t4 t17 U H)
noncomputable def S39_1 (call : CallFn) (n : Nat) : AV → AV → AV → AHeap → R :=
  Nat.rec (motive := fun _ => AV → AV → AV → AHeap → R) (fun _ _ _ _ => none) (fun _ q1 t0 t3 t4 H => pO (aLen .sl H t3) H fun t10 H =>
  pLss t4 t10 H fun t11 H =>
  onBool t11 (pO (aLen .str H t0) H fun t15 H =>
  pGeq t15 (.int .i64 (.ofNat 2)) H fun t16 H =>
  guardA t16 true (S39_8 call q1 t0 t3 t4 t16 t0 H) (S39_8 call q1 t0 t3 t4 t16 U H)) (S39_0 call 1000000 t0 (.str [40, 41, 123, 125, 91, 93, 44, 59, 46, 61, 60, 62, 43, 45, 42, 47, 37, 38, 124, 94, 33, 58]) (.int .i64 (.ofNat 0)) H)) n
noncomputable def S39_9 (call : CallFn) (t0 : AV) (H : AHeap) : R :=
  pN (aBsl 1 8 [(.str [])] [(0, 1, (.str [61, 61])), (1, 1, (.str [33, 61])), (2, 1, (.str [60, 61])), (3, 1, (.str [62, 61])), (4, 1, (.str [60, 60])), (5, 1, (.str [62, 62])), (6, 1, (.str [38, 38])), (7, 1, (.str [124, 124]))]) H fun t7 H =>
  S39_1 call 1000000 t0 t7 (.int .i64 (.ofNat 0)) H
noncomputable def S39 : Ff := ⟨fun call l H => argA1 (fun t0 => S39_9 call t0 H) l⟩
/- (*gantline/gantlineref19.parser).w -/
noncomputable def S40_0 (_ : CallFn) (t0 : AV) (H : AHeap) : R :=
  pNew [(.int .i64 (.ofNat 0)), (.str []), (.int .i64 (.ofNat 0))] H fun t2 H =>
  pO (aNil t0) H fun t4 H =>
  pFa 0 t4 H fun t5 H =>
  ldK .none H t5 fun t6 H =>
  pO (aNil t0) H fun t8 H =>
  pFa 1 t8 H fun t9 H =>
  ldK .none H t9 fun t10 H =>
  pIa 3 t6 t10 H fun t11 H =>
  ldK (.some 3) H t11 fun t12 H =>
  stK 3 H t2 t12 fun _ H =>
  ob (allM (fun o => o) [aLoad (.some 3) H t2]) fun vs => some (resV vs, H)
noncomputable def S40 : Ff := ⟨fun call l H => argA1 (fun t0 => S40_0 call t0 H) l⟩
/- (*gantline/gantlineref19.parser).take -/
noncomputable def S41_0 (call : CallFn) (t0 t1 : AV) (H : AHeap) : R :=
  pC call 44 [t0, t1] H fun t7 H =>
  pO (aUn .not t7) H fun t8 H =>
  onBool t8 (some ((.bool false), H)) (pO (aNil t0) H fun t10 H =>
  pFa 1 t10 H fun t11 H =>
  ldK .none H t11 fun t12 H =>
  pAdd t12 (.int .i64 (.ofNat 1)) H fun t13 H =>
  pO (aNil t0) H fun t14 H =>
  pFa 1 t14 H fun t15 H =>
  stK 1 H t15 t13 fun _ H =>
  some ((.bool true), H))
noncomputable def S41 : Ff := ⟨fun call l H => argA2 (fun t0 t1 => S41_0 call t0 t1 H) l⟩
/- (*gantline/gantlineref19.parser).name -/
noncomputable def S42_0 (call : CallFn) (t0 t8 t12 : AV) (H : AHeap) : R :=
  pPick t8 (.bool true) t12 H fun t13 H =>
  onBool t13 (pC call 47 [t0] H fun _ H =>
  some ((.str []), H)) (pO (aNil t0) H fun t17 H =>
  pFa 1 t17 H fun t18 H =>
  ldK .none H t18 fun t19 H =>
  pAdd t19 (.int .i64 (.ofNat 1)) H fun t20 H =>
  pO (aNil t0) H fun t21 H =>
  pFa 1 t21 H fun t22 H =>
  stK 1 H t22 t20 fun _ H =>
  pO (aNil t0) H fun t24 H =>
  pFa 0 t24 H fun t25 H =>
  ldK .none H t25 fun t26 H =>
  pO (aNil t0) H fun t28 H =>
  pFa 1 t28 H fun t29 H =>
  ldK .none H t29 fun t30 H =>
  pSub t30 (.int .i64 (.ofNat 1)) H fun t31 H =>
  pIa 3 t26 t31 H fun t32 H =>
  pFa 1 t32 H fun t33 H =>
  ldK .none H t33 fun t34 H =>
  some (t34, H))
noncomputable def S42_1 (call : CallFn) (t0 : AV) (H : AHeap) : R :=
  pO (aNil t0) H fun t4 H =>
  pFa 2 t4 H fun t5 H =>
  ldK .none H t5 fun t6 H =>
  pGeq t6 (.int .i64 (.ofNat 0)) H fun t7 H =>
  guardA t7 false (pC call 40 [t0] H fun t10 H =>
  pO (aFld 0 .none t10) H fun t11 H =>
  pNeq t11 (.int .i64 (.ofNat 1)) H fun t12 H =>
  S42_0 call t0 t7 t12 H) (S42_0 call t0 t7 U H)
noncomputable def S42 : Ff := ⟨fun call l H => argA1 (fun t0 => S42_1 call t0 H) l⟩
/- (*gantline/gantlineref19.parser).want -/
noncomputable def S43_0 (call : CallFn) (t0 t1 : AV) (H : AHeap) : R :=
  pC call 41 [t0, t1] H fun t6 H =>
  pO (aUn .not t6) H fun t7 H =>
  onBool t7 (pC call 47 [t0] H fun _ H =>
  some (.tup [], H)) (some (.tup [], H))
noncomputable def S43 : Ff := ⟨fun call l H => argA2 (fun t0 t1 => S43_0 call t0 t1 H) l⟩
/- (*gantline/gantlineref19.parser).is -/
noncomputable def S44_0 (_ : CallFn) (t28 t33 : AV) (H : AHeap) : R :=
  pPick t28 t33 (.bool false) H fun t34 H =>
  some (t34, H)
noncomputable def S44_1 (call : CallFn) (t0 t1 t22 t26 : AV) (H : AHeap) : R :=
  pPick t22 t26 (.bool false) H fun t27 H =>
  guardA t27 true (pC call 40 [t0] H fun t30 H =>
  pO (aFld 1 .none t30) H fun t31 H =>
  pEql t31 t1 H fun t33 H =>
  S44_0 call t27 t33 H) (S44_0 call t27 U H)
noncomputable def S44_2 (call : CallFn) (t0 t1 t16 t20 : AV) (H : AHeap) : R :=
  pPick t16 t20 (.bool false) H fun t21 H =>
  guardA t21 true (pC call 40 [t0] H fun t24 H =>
  pO (aFld 0 .none t24) H fun t25 H =>
  pNeq t25 (.int .i64 (.ofNat 0)) H fun t26 H =>
  S44_1 call t0 t1 t21 t26 H) (S44_1 call t0 t1 t21 U H)
noncomputable def S44_3 (call : CallFn) (t0 t1 t10 t14 : AV) (H : AHeap) : R :=
  pPick t10 t14 (.bool false) H fun t15 H =>
  guardA t15 true (pC call 40 [t0] H fun t18 H =>
  pO (aFld 0 .none t18) H fun t19 H =>
  pNeq t19 (.int .i64 (.ofNat 3)) H fun t20 H =>
  S44_2 call t0 t1 t15 t20 H) (S44_2 call t0 t1 t15 U H)
noncomputable def S44_4 (call : CallFn) (t0 t1 : AV) (H : AHeap) : R :=
  pO (aNil t0) H fun t6 H =>
  pFa 2 t6 H fun t7 H =>
  ldK .none H t7 fun t8 H =>
  pLss t8 (.int .i64 (.ofNat 0)) H fun t9 H =>
  guardA t9 true (pC call 40 [t0] H fun t12 H =>
  pO (aFld 0 .none t12) H fun t13 H =>
  pNeq t13 (.int .i64 (.ofNat 1)) H fun t14 H =>
  S44_3 call t0 t1 t9 t14 H) (S44_3 call t0 t1 t9 U H)
noncomputable def S44 : Ff := ⟨fun call l H => argA2 (fun t0 t1 => S44_4 call t0 t1 H) l⟩
/- (*gantline/gantlineref19.parser).rest -/
noncomputable def S46_0 (call : CallFn) (t0 t3 : AV) (H : AHeap) : R :=
  pC call 43 [t0, (.str [41])] H fun _ H =>
  pC call 77 [t0] H fun t37 H =>
  pNew [(.str []), (.str []), (.int .i64 (.ofNat 0)), .nilsl] H fun t5 H =>
  stK 4 H t5 t37 fun _ H =>
  ldK (.some 4) H t3 fun t38 H =>
  ldK (.some 4) H t5 fun t39 H =>
  pC call 78 [t0] H fun t41 H =>
  andR (andB (ckV (aLoad (.some 4) H t3) t38) (andB (ckV (aLoad (.some 4) H t5) t39) true)) (
  pN (aBsl 4 3 [(.str []), (.str []), (.int .i64 (.ofNat 0)), .nilsl] [(0, 4, t38), (4, 4, t39), (8, 4, t41)]) H fun t42 H =>
  some (t42, H))
noncomputable def S46_1 (call : CallFn) (n : Nat) : AV → AV → AHeap → R :=
  Nat.rec (motive := fun _ => AV → AV → AHeap → R) (fun _ _ _ => none) (fun _ q0 t0 t3 H => pC call 40 [t0] H fun t16 H =>
  pO (aFld 2 .none t16) H fun t17 H =>
  pC call 42 [t0] H fun t19 H =>
  pO (someAgg (aFill [(.str []), (.str []), (.int .i64 (.ofNat 0)), .nilsl] [(0, 1, (.str [112, 97, 114, 97, 109])), (2, 1, t17), (1, 1, t19)])) H fun t20 H =>
  pNew [(.str []), (.str []), (.int .i64 (.ofNat 0)), .nilsl] H fun t4 H =>
  stK 4 H t4 t20 fun _ H =>
  pC call 45 [t0] H fun t22 H =>
  pN (aBsl 4 1 [(.str []), (.str []), (.int .i64 (.ofNat 0)), .nilsl] [(0, 4, t22)]) H fun t23 H =>
  pFa 3 t4 H fun t24 H =>
  stK 1 H t24 t23 fun _ H =>
  pFa 3 t3 H fun t25 H =>
  ldK .none H t25 fun t26 H =>
  ldK (.some 4) H t4 fun t27 H =>
  pN (aBsl 4 1 [(.str []), (.str []), (.int .i64 (.ofNat 0)), .nilsl] [(0, 4, t27)]) H fun t28 H =>
  pW (aApp 4 64 H t26 t28) fun t29 H =>
  pFa 3 t3 H fun t30 H =>
  stK 1 H t30 t29 fun _ H =>
  pC call 41 [t0, (.str [44])] H fun t32 H =>
  pO (aUn .not t32) H fun t33 H =>
  onBool t33 (S46_0 call t0 t3 H) (q0 t0 t3 H)) n
noncomputable def S46_2 (call : CallFn) (t0 : AV) (H : AHeap) : R :=
  pC call 43 [t0, (.str [40])] H fun _ H =>
  pC call 40 [t0] H fun t9 H =>
  pO (aFld 2 .none t9) H fun t10 H =>
  pO (someAgg (aFill [(.str []), (.str []), (.int .i64 (.ofNat 0)), .nilsl] [(0, 1, (.str [112, 97, 114, 97, 109, 115])), (2, 1, t10)])) H fun t11 H =>
  pNew [(.str []), (.str []), (.int .i64 (.ofNat 0)), .nilsl] H fun t3 H =>
  stK 4 H t3 t11 fun _ H =>
  pC call 44 [t0, (.str [41])] H fun t13 H =>
  pO (aUn .not t13) H fun t14 H =>
  onBool t14 (S46_1 call 1000000 t0 t3 H) (S46_0 call t0 t3 H)
noncomputable def S46 : Ff := ⟨fun call l H => argA1 (fun t0 => S46_2 call t0 H) l⟩
/- gantline/tree.Good -/
noncomputable def S48_1 (call : CallFn) (q0 : AV → AV → AV → AV → AHeap → R) (t3 t6 t7 t40 t41 t42 : AV) (H : AHeap) : R :=
  ldK (.some 4) H t6 fun t59 H =>
  pC call 80 [t59, t7] H fun t61 H =>
  pO (aUn .not t61) H fun t62 H =>
  onBool t62 (some ((.bool false), H)) (pAdd t42 (.int .i64 (.ofNat 1)) H fun t63 H =>
  q0 t3 t40 t41 t63 H)
noncomputable def S48_0 (call : CallFn) (n : Nat) : AV → AV → AV → AV → AHeap → R :=
  Nat.rec (motive := fun _ => AV → AV → AV → AV → AHeap → R) (fun _ _ _ _ _ => none) (fun _ q0 t3 t40 t41 t42 H => pLss t42 t41 H fun t43 H =>
  onBool t43 (pIa 4 t40 t42 H fun t45 H =>
  ldK (.some 4) H t45 fun t46 H =>
  pNew [(.str []), (.str []), (.int .i64 (.ofNat 0)), .nilsl] H fun t6 H =>
  stK 4 H t6 t46 fun _ H =>
  pFa 1 t3 H fun t47 H =>
  ldK .none H t47 fun t48 H =>
  pFa 0 t3 H fun t50 H =>
  ldK .none H t50 fun t51 H =>
  pO (aLen .sl H t51) H fun t52 H =>
  pLss t42 t52 H fun t53 H =>
  onBool t53 (pFa 0 t3 H fun t54 H =>
  ldK .none H t54 fun t55 H =>
  pIa 1 t55 t42 H fun t57 H =>
  ldK .none H t57 fun t58 H =>
  S48_1 call q0 t3 t6 t58 t40 t41 t42 H) (S48_1 call q0 t3 t6 t48 t40 t41 t42 H)) (some ((.bool true), H))) n
noncomputable def S48_2 (call : CallFn) (t1 t3 t25 t37 : AV) (H : AHeap) : R :=
  pPick t25 (.bool true) t37 H fun t38 H =>
  onBool t38 (some ((.bool false), H)) (pFa 3 t1 H fun t39 H =>
  ldK .none H t39 fun t40 H =>
  pO (aLen .sl H t40) H fun t41 H =>
  S48_0 call 1000000 t3 t40 t41 (.int .i64 (.ofNat 0)) H)
noncomputable def S48_3 (call : CallFn) (t1 t3 t25 t29 t36 : AV) (H : AHeap) : R :=
  guardA t25 false (pPick t29 t36 (.bool false) H fun t37 H =>
  S48_2 call t1 t3 t25 t37 H) (S48_2 call t1 t3 t25 U H)
noncomputable def S48_4 (call : CallFn) (t1 t3 t25 t29 : AV) (H : AHeap) : R :=
  guardA t29 true (pFa 3 t1 H fun t30 H =>
  ldK .none H t30 fun t31 H =>
  pO (aLen .sl H t31) H fun t32 H =>
  pFa 0 t3 H fun t33 H =>
  ldK .none H t33 fun t34 H =>
  pO (aLen .sl H t34) H fun t35 H =>
  pGtr t32 t35 H fun t36 H =>
  S48_3 call t1 t3 t25 t29 t36 H) (S48_3 call t1 t3 t25 t29 U H)
noncomputable def S48_5 (call : CallFn) (t1 t3 t16 t23 : AV) (H : AHeap) : R :=
  pPick t16 (.bool true) t23 H fun t24 H =>
  guardA t24 false (pFa 1 t3 H fun t26 H =>
  ldK .none H t26 fun t27 H =>
  pEql t27 (.str []) H fun t28 H =>
  S48_4 call t1 t3 t24 t28 H) (S48_4 call t1 t3 t24 U H)
noncomputable def S48_6 (call : CallFn) (t0 : AV) (H : AHeap) : R :=
  pBox t0 H fun t1 H =>
  pFa 0 t1 H fun t9 H =>
  ldK .none H t9 fun t10 H =>
  pC call 79 [t10] H fun t11 H =>
  pExt t11 0 H fun t12 H =>
  pExt t11 1 H fun t13 H =>
  pNew [.nilsl, (.str [])] H fun t3 H =>
  stK 2 H t3 t12 fun _ H =>
  pO (aUn .not t13) H fun t15 H =>
  guardA t15 false (pFa 3 t1 H fun t17 H =>
  ldK .none H t17 fun t18 H =>
  pO (aLen .sl H t18) H fun t19 H =>
  pFa 0 t3 H fun t20 H =>
  ldK .none H t20 fun t21 H =>
  pO (aLen .sl H t21) H fun t22 H =>
  pLss t19 t22 H fun t23 H =>
  S48_5 call t1 t3 t15 t23 H) (S48_5 call t1 t3 t15 U H)
noncomputable def S48 : Ff := ⟨fun call l H => argA1 (fun t0 => S48_6 call t0 H) l⟩
/- slices.ContainsFunc[[]gantline/tree.Node,gantline/tree.Node] -/
noncomputable def S49_0 (call : CallFn) (t0 t1 : AV) (H : AHeap) : R :=
  pC call 51 [t0, t1] H fun t7 H =>
  pGeq t7 (.int .i64 (.ofNat 0)) H fun t8 H =>
  some (t8, H)
noncomputable def S49 : Ff := ⟨fun call l H => argA2 (fun t0 t1 => S49_0 call t0 t1 H) l⟩
/- gantline/check.whole$1 -/
noncomputable def S50_0 (call : CallFn) (t0 : AV) (H : AHeap) : R :=
  pBox t0 H fun t1 H =>
  ldK (.some 4) H t1 fun t3 H =>
  pC call 17 [t3] H fun t4 H =>
  pO (aUn .not t4) H fun t5 H =>
  some (t5, H)
noncomputable def S50 : Ff := ⟨fun call l H => argA1 (fun t0 => S50_0 call t0 H) l⟩
/- slices.IndexFunc[[]gantline/tree.Node,gantline/tree.Node] -/
noncomputable def S51_0 (call : CallFn) (n : Nat) : AV → AV → AV → AV → AHeap → R :=
  Nat.rec (motive := fun _ => AV → AV → AV → AV → AHeap → R) (fun _ _ _ _ _ => none) (fun _ q0 t0 t1 t7 t8 H => pLss t8 t7 H fun t9 H =>
  onBool t9 (pIa 4 t0 t8 H fun t14 H =>
  ldK (.some 4) H t14 fun t15 H =>
  pV call t1 [t15] H fun t16 H =>
  onBool t16 (some (t8, H)) (pAdd t8 (.int .i64 (.ofNat 1)) H fun t18 H =>
  q0 t0 t1 t7 t18 H)) (some ((.int .i64 (.negSucc 0)), H))) n
noncomputable def S51_1 (call : CallFn) (t0 t1 : AV) (H : AHeap) : R :=
  pO (aLen .sl H t0) H fun t7 H =>
  S51_0 call 1000000 t0 t1 t7 (.int .i64 (.ofNat 0)) H
noncomputable def S51 : Ff := ⟨fun call l H => argA2 (fun t0 t1 => S51_1 call t0 t1 H) l⟩
/- (*gantline/check.checker).decl$1 -/
noncomputable def S52_0 (_ : CallFn) (t9 t13 : AV) (H : AHeap) : R :=
  pPick t9 t13 (.bool false) H fun t14 H =>
  some (t14, H)
noncomputable def S52_1 (call : CallFn) (t0 t1 t2 : AV) (H : AHeap) : R :=
  pBox t0 H fun t3 H =>
  pFa 0 t3 H fun t5 H =>
  ldK .none H t5 fun t6 H =>
  ldK .none H t1 fun t7 H =>
  pEql t6 t7 H fun t8 H =>
  guardA t8 true (pFa 1 t3 H fun t10 H =>
  ldK .none H t10 fun t11 H =>
  ldK .none H t2 fun t12 H =>
  pEql t11 t12 H fun t13 H =>
  S52_0 call t8 t13 H) (S52_0 call t8 U H)
noncomputable def S52 : Ff := ⟨fun call l H => argA3 (fun t0 t1 t2 => S52_1 call t0 t1 t2 H) l⟩
/- (*gantline/check.checker).fault -/
noncomputable def S53_0 (_ : CallFn) (t0 t1 : AV) (H : AHeap) : R :=
  pO (aNil t0) H fun t5 H =>
  pFa 4 t5 H fun t6 H =>
  ldK .none H t6 fun t7 H =>
  pO (aUn .not t7) H fun t8 H =>
  onBool t8 (pO (aNil t0) H fun t12 H =>
  pFa 4 t12 H fun t13 H =>
  stK 1 H t13 (.bool true) fun _ H =>
  pO (aNil t0) H fun t14 H =>
  pFa 5 t14 H fun t15 H =>
  stK 1 H t15 t1 fun _ H =>
  some (.tup [], H)) (some (.tup [], H))
noncomputable def S53 : Ff := ⟨fun call l H => argA2 (fun t0 t1 => S53_0 call t0 t1 H) l⟩
/- (*gantline/check.checker).stmts -/
noncomputable def S55_1 (_ : CallFn) (q0 : AV → AV → AV → AV → AHeap → R) (t0 t7 t8 t9 : AV) (H : AHeap) : R :=
  pAdd t9 (.int .i64 (.ofNat 1)) H fun t21 H =>
  q0 t0 t7 t8 t21 H
noncomputable def S55_0 (call : CallFn) (n : Nat) : AV → AV → AV → AV → AHeap → R :=
  Nat.rec (motive := fun _ => AV → AV → AV → AV → AHeap → R) (fun _ _ _ _ _ => none) (fun _ q0 t0 t7 t8 t9 H => pLss t9 t8 H fun t10 H =>
  onBool t10 (pIa 4 t7 t9 H fun t11 H =>
  ldK (.some 4) H t11 fun t12 H =>
  pNew [(.str []), (.str []), (.int .i64 (.ofNat 0)), .nilsl] H fun t5 H =>
  stK 4 H t5 t12 fun _ H =>
  pO (aNil t0) H fun t14 H =>
  pFa 4 t14 H fun t15 H =>
  ldK .none H t15 fun t16 H =>
  pO (aUn .not t16) H fun t17 H =>
  onBool t17 (ldK (.some 4) H t5 fun t19 H =>
  pC call 81 [t0, t19] H fun _ H =>
  S55_1 call q0 t0 t7 t8 t9 H) (S55_1 call q0 t0 t7 t8 t9 H)) (some (.tup [], H))) n
noncomputable def S55_2 (call : CallFn) (t0 t1 : AV) (H : AHeap) : R :=
  pBox t1 H fun t3 H =>
  pFa 3 t3 H fun t6 H =>
  ldK .none H t6 fun t7 H =>
  pO (aLen .sl H t7) H fun t8 H =>
  S55_0 call 1000000 t0 t7 t8 (.int .i64 (.ofNat 0)) H
noncomputable def S55 : Ff := ⟨fun call l H => argA2 (fun t0 t1 => S55_2 call t0 t1 H) l⟩
/- (*gantline/lower.builder).stmt -/
noncomputable def S59_0 (call : CallFn) (t0 t1 : AV) (H : AHeap) : R :=
  pBox t1 H fun t3 H =>
  pFa 3 t3 H fun t10 H =>
  ldK .none H t10 fun t11 H =>
  pFa 0 t3 H fun t12 H =>
  ldK .none H t12 fun t13 H =>
  pEql t13 (.str [98, 108, 111, 99, 107]) H fun t15 H =>
  onBool t15 (ldK (.some 4) H t3 fun t17 H =>
  pC call 83 [t0, t17, .nilsl] H fun _ H =>
  some (.tup [], H)) (pEql t13 (.str [108, 101, 116]) H fun t20 H =>
  onBool t20 (pIa 4 t11 (.int .i64 (.ofNat 0)) H fun t23 H =>
  ldK (.some 4) H t23 fun t24 H =>
  pC call 23 [t24] H fun t25 H =>
  pC call 25 [t0, t25] H fun t26 H =>
  pIa 4 t11 (.int .i64 (.ofNat 1)) H fun t29 H =>
  ldK (.some 4) H t29 fun t30 H =>
  pC call 84 [t0, t30, t26] H fun _ H =>
  pFa 1 t3 H fun t34 H =>
  ldK .none H t34 fun t35 H =>
  pIa 4 t11 (.int .i64 (.ofNat 0)) H fun t37 H =>
  ldK (.some 4) H t37 fun t38 H =>
  pC call 24 [t0, t35, t38, t26] H fun _ H =>
  some (.tup [], H)) (pEql t13 (.str [115, 101, 116]) H fun t42 H =>
  onBool t42 (pIa 4 t11 (.int .i64 (.ofNat 0)) H fun t45 H =>
  ldK (.some 4) H t45 fun t46 H =>
  pIa 4 t11 (.int .i64 (.ofNat 1)) H fun t48 H =>
  ldK (.some 4) H t48 fun t49 H =>
  pC call 85 [t0, t46, t49] H fun _ H =>
  some (.tup [], H)) (pEql t13 (.str [105, 102]) H fun t52 H =>
  onBool t52 (pC call 86 [t0, t11] H fun _ H =>
  some (.tup [], H)) (pEql t13 (.str [119, 104, 105, 108, 101]) H fun t57 H =>
  onBool t57 (pC call 87 [t0, t11] H fun _ H =>
  some (.tup [], H)) (pEql t13 (.str [114, 101, 116, 117, 114, 110]) H fun t62 H =>
  onBool t62 (pIa 4 t11 (.int .i64 (.ofNat 0)) H fun t65 H =>
  ldK (.some 4) H t65 fun t66 H =>
  pC call 88 [t0, t66] H fun _ H =>
  some (.tup [], H)) (pEql t13 (.str [112, 114, 105, 110, 116]) H fun t69 H =>
  onBool t69 (pIa 4 t11 (.int .i64 (.ofNat 0)) H fun t72 H =>
  ldK (.some 4) H t72 fun t73 H =>
  pC call 89 [t0, (.int .i64 (.ofNat 42)), t73] H fun _ H =>
  some (.tup [], H)) (pEql t13 (.str [99, 108, 111, 115, 101]) H fun t76 H =>
  onBool t76 (pIa 4 t11 (.int .i64 (.ofNat 0)) H fun t79 H =>
  ldK (.some 4) H t79 fun t80 H =>
  pC call 89 [t0, (.int .i64 (.ofNat 40)), t80] H fun _ H =>
  some (.tup [], H)) (pEql t13 (.str [103, 111]) H fun t83 H =>
  onBool t83 (pIa 4 t11 (.int .i64 (.ofNat 0)) H fun t86 H =>
  ldK (.some 4) H t86 fun t87 H =>
  pC call 90 [t0, t87, (.int .i64 (.negSucc 0)), (.bool true)] H fun _ H =>
  some (.tup [], H)) (pEql t13 (.str [115, 101, 110, 100]) H fun t90 H =>
  onBool t90 (pIa 4 t11 (.int .i64 (.ofNat 0)) H fun t94 H =>
  ldK (.some 4) H t94 fun t95 H =>
  pC call 91 [t0, t95] H fun t96 H =>
  pExt t96 0 H fun t97 H =>
  pExt t96 1 H fun t98 H =>
  pIa 4 t11 (.int .i64 (.ofNat 1)) H fun t102 H =>
  ldK (.some 4) H t102 fun t103 H =>
  pC call 91 [t0, t103] H fun t104 H =>
  pExt t104 0 H fun t105 H =>
  pExt t104 1 H fun t106 H =>
  pO (someAgg (aFill [(.int .i64 (.ofNat 0)), (.int .i64 (.ofNat 0)), (.int .i64 (.ofNat 0)), (.int .i64 (.ofNat 0)), (.int .i64 (.ofNat 0))] [(0, 1, (.int .i64 (.ofNat 38))), (1, 1, t97), (2, 1, t105)])) H fun t110 H =>
  pC call 28 [t0, t110] H fun _ H =>
  pN (aBsl 1 2 [(.int .i64 (.ofNat 0))] [(0, 1, t98), (1, 1, t106)]) H fun t115 H =>
  pC call 92 [t0, t115] H fun _ H =>
  some (.tup [], H)) (pEql t13 (.str [115, 101, 108, 101, 99, 116]) H fun t118 H =>
  onBool t118 (ldK (.some 4) H t3 fun t120 H =>
  pC call 93 [t0, t120] H fun _ H =>
  some (.tup [], H)) (pEql t13 (.str [100, 111]) H fun t123 H =>
  onBool t123 (pIa 4 t11 (.int .i64 (.ofNat 0)) H fun t126 H =>
  ldK (.some 4) H t126 fun t127 H =>
  pC call 94 [t0, t127] H fun _ H =>
  some (.tup [], H)) (some (.tup [], H)))))))))))))
noncomputable def S59 : Ff := ⟨fun call l H => argA2 (fun t0 t1 => S59_0 call t0 t1 H) l⟩
/- gantline/verify.module$2 -/
noncomputable def S62_0 (call : CallFn) (t0 : AV) (H : AHeap) : R :=
  pC call 63 [t0] H fun t4 H =>
  pNeq t4 t0 H fun t6 H =>
  some (t6, H)
noncomputable def S62 : Ff := ⟨fun call l H => argA1 (fun t0 => S62_0 call t0 H) l⟩
/- gantline/bits.Wrap -/
noncomputable def S63_0 (_ : CallFn) (t0 : AV) (H : AHeap) : R :=
  pO (aBin .shl t0 (.int .u64 (.ofNat 1))) H fun t4 H =>
  pO (aBin .shr t4 (.int .u64 (.ofNat 1))) H fun t5 H =>
  some (t5, H)
noncomputable def S63 : Ff := ⟨fun call l H => argA1 (fun t0 => S63_0 call t0 H) l⟩
/- slices.ContainsFunc[[]gantline/head.Shape,gantline/head.Shape] -/
noncomputable def S64_0 (call : CallFn) (t0 t1 : AV) (H : AHeap) : R :=
  pC call 95 [t0, t1] H fun t7 H =>
  pGeq t7 (.int .i64 (.ofNat 0)) H fun t8 H =>
  some (t8, H)
noncomputable def S64 : Ff := ⟨fun call l H => argA2 (fun t0 t1 => S64_0 call t0 t1 H) l⟩
/- slices.ContainsFunc[[]int64,int64] -/
noncomputable def S65_0 (call : CallFn) (t0 t1 : AV) (H : AHeap) : R :=
  pC call 96 [t0, t1] H fun t7 H =>
  pGeq t7 (.int .i64 (.ofNat 0)) H fun t8 H =>
  some (t8, H)
noncomputable def S65 : Ff := ⟨fun call l H => argA2 (fun t0 t1 => S65_0 call t0 t1 H) l⟩
/- gantline/live.Sets -/
noncomputable def S66_0 (_ : CallFn) (t5 : AV) (H : AHeap) : R :=
  ldK .none H t5 fun t52 H =>
  some (t52, H)
noncomputable def S66_3 (_ : CallFn) (q1 : AV → AV → AV → AV → AV → AV → AHeap → R) (t2 t3 t5 t6 t7 t8 : AV) (H : AHeap) : R :=
  pSub t8 (.int .i64 (.ofNat 1)) H fun t24 H =>
  q1 t2 t3 t5 t6 t7 t24 H
noncomputable def S66_2 (call : CallFn) (q0 : AV → AV → AV → AV → AV → AHeap → R) (n : Nat) : AV → AV → AV → AV → AV → AV → AHeap → R :=
  Nat.rec (motive := fun _ => AV → AV → AV → AV → AV → AV → AHeap → R) (fun _ _ _ _ _ _ _ => none) (fun _ q1 t2 t3 t5 t6 t7 t8 H => pGeq t8 (.int .i64 (.ofNat 0)) H fun t22 H =>
  onBool t22 (pFa 5 t3 H fun t25 H =>
  ldK .none H t25 fun t26 H =>
  pIa 5 t26 t8 H fun t28 H =>
  ldK (.some 5) H t28 fun t29 H =>
  pNew [(.int .i64 (.ofNat 0)), (.int .i64 (.ofNat 0)), (.int .i64 (.ofNat 0)), (.int .i64 (.ofNat 0)), (.int .i64 (.ofNat 0))] H fun t9 H =>
  stK 5 H t9 t29 fun _ H =>
  ldK (.some 6) H t2 fun t30 H =>
  ldK (.some 5) H t9 fun t31 H =>
  ldK (.some 5) H t9 fun t37 H =>
  pC call 101 [t30, t31] H fun t32 H =>
  andR (andB (ckV (aLoad (.some 5) H t9) t37) true) (
  pC call 99 [t32] H fun t33 H =>
  andR (andB (ckV (aLoad (.some 5) H t9) t37) true) (
  pV call t6 [t8] H fun t36 H =>
  andR (andB (ckV (aLoad (.some 5) H t9) t37) true) (
  pC call 102 [t37] H fun t38 H =>
  pC call 99 [t38] H fun t39 H =>
  pAndN t36 t39 H fun t40 H =>
  pOr t33 t40 H fun t41 H =>
  ldK .none H t5 fun t43 H =>
  pIa 1 t43 t8 H fun t45 H =>
  ldK .none H t45 fun t46 H =>
  pNeq t41 t46 H fun t47 H =>
  onBool t47 (ldK .none H t5 fun t48 H =>
  pIa 1 t48 t8 H fun t51 H =>
  stK 1 H t51 t41 fun _ H =>
  S66_3 call q1 t2 t3 t5 t6 (.bool true) t8 H) (S66_3 call q1 t2 t3 t5 t6 t7 t8 H))))) (q0 t2 t3 t5 t6 t7 H)) n
noncomputable def S66_1 (call : CallFn) (n : Nat) : AV → AV → AV → AV → AV → AHeap → R :=
  Nat.rec (motive := fun _ => AV → AV → AV → AV → AV → AHeap → R) (fun _ _ _ _ _ _ => none) (fun _ q0 t2 t3 t5 t6 t7 H => onBool t7 (pFa 5 t3 H fun t17 H =>
  ldK .none H t17 fun t18 H =>
  pO (aLen .sl H t18) H fun t19 H =>
  pSub t19 (.int .i64 (.ofNat 1)) H fun t20 H =>
  S66_2 call q0 1000000 t2 t3 t5 t6 (.bool false) t20 H) (S66_0 call t5 H)) n
noncomputable def S66_4 (call : CallFn) (t0 t1 : AV) (H : AHeap) : R :=
  pBox t0 H fun t2 H =>
  pBox t1 H fun t3 H =>
  pFa 5 t3 H fun t11 H =>
  ldK .none H t11 fun t12 H =>
  pO (aLen .sl H t12) H fun t13 H =>
  pN (aMksl 1 8 [(.int .u64 (.ofNat 0))] t13 t13) H fun t14 H =>
  pNew [.nilsl] H fun t5 H =>
  stK 1 H t5 t14 fun _ H =>
  S66_1 call 1000000 t2 t3 t5 (.fn 97 [] [t3, t2, t5]) (.bool true) H
noncomputable def S66 : Ff := ⟨fun call l H => argA2 (fun t0 t1 => S66_4 call t0 t1 H) l⟩
/- slices.Index[[]int,int] -/
noncomputable def S67_0 (_ : CallFn) (n : Nat) : AV → AV → AV → AV → AHeap → R :=
  Nat.rec (motive := fun _ => AV → AV → AV → AV → AHeap → R) (fun _ _ _ _ _ => none) (fun _ q0 t0 t1 t7 t8 H => pLss t8 t7 H fun t9 H =>
  onBool t9 (pIa 1 t0 t8 H fun t14 H =>
  ldK .none H t14 fun t15 H =>
  pEql t1 t15 H fun t16 H =>
  onBool t16 (some (t8, H)) (pAdd t8 (.int .i64 (.ofNat 1)) H fun t18 H =>
  q0 t0 t1 t7 t18 H)) (some ((.int .i64 (.negSucc 0)), H))) n
noncomputable def S67_1 (call : CallFn) (t0 t1 : AV) (H : AHeap) : R :=
  pO (aLen .sl H t0) H fun t7 H =>
  S67_0 call 1000000 t0 t1 t7 (.int .i64 (.ofNat 0)) H
noncomputable def S67 : Ff := ⟨fun call l H => argA2 (fun t0 t1 => S67_1 call t0 t1 H) l⟩
/- (*gantline/verify.checker).slots -/
noncomputable def S68_0 (_ : CallFn) (t31 t39 : AV) (H : AHeap) : R :=
  pPick t31 t39 (.bool false) H fun t40 H =>
  some (t40, H)
noncomputable def S68_1 (call : CallFn) (t1 t31 t32 t33 t34 t38 : AV) (H : AHeap) : R :=
  andR (andB (gdB t31 true (ckV (aLoad .none H t1) t32)) (andB (gdB t31 true (ckV (aLoad .none H t33) t34)) true)) (
  guardA t31 true (pC call 105 [t32, t34, t38] H fun t39 H =>
  S68_0 call t31 t39 H) (S68_0 call t31 U H))
noncomputable def S68_2 (call : CallFn) (t1 t31 t32 t33 t34 t35 t37 : AV) (H : AHeap) : R :=
  guardA t31 true (pC call 106 [t35, t37] H fun t38 H =>
  S68_1 call t1 t31 t32 t33 t34 t38 H) (S68_1 call t1 t31 t32 t33 t34 U H)
noncomputable def S68_3 (call : CallFn) (t1 t31 t32 t33 t34 t35 t36 : AV) (H : AHeap) : R :=
  guardA t31 true (ldK .none H t36 fun t37 H =>
  S68_2 call t1 t31 t32 t33 t34 t35 t37 H) (S68_2 call t1 t31 t32 t33 t34 t35 U H)
noncomputable def S68_4 (call : CallFn) (t1 t3 t31 t32 t33 t34 t35 : AV) (H : AHeap) : R :=
  guardA t31 true (pFa 2 t3 H fun t36 H =>
  S68_3 call t1 t31 t32 t33 t34 t35 t36 H) (S68_3 call t1 t31 t32 t33 t34 t35 U H)
noncomputable def S68_5 (call : CallFn) (t1 t3 t31 t32 t33 t34 : AV) (H : AHeap) : R :=
  guardA t31 true (ldK .none H t1 fun t35 H =>
  S68_4 call t1 t3 t31 t32 t33 t34 t35 H) (S68_4 call t1 t3 t31 t32 t33 t34 U H)
noncomputable def S68_6 (call : CallFn) (t1 t3 t31 t32 t33 : AV) (H : AHeap) : R :=
  guardA t31 true (ldK .none H t33 fun t34 H =>
  S68_5 call t1 t3 t31 t32 t33 t34 H) (S68_5 call t1 t3 t31 t32 t33 U H)
noncomputable def S68_7 (call : CallFn) (t1 t3 t31 t32 : AV) (H : AHeap) : R :=
  guardA t31 true (pFa 3 t3 H fun t33 H =>
  S68_6 call t1 t3 t31 t32 t33 H) (S68_6 call t1 t3 t31 t32 U H)
noncomputable def S68_8 (_ : CallFn) (t54 t60 : AV) (H : AHeap) : R :=
  pPick t54 t60 (.bool false) H fun t61 H =>
  some (t61, H)
noncomputable def S68_9 (call : CallFn) (t1 t3 t48 t52 : AV) (H : AHeap) : R :=
  pPick t48 t52 (.bool false) H fun t53 H =>
  guardA t53 true (ldK .none H t1 fun t55 H =>
  pFa 3 t3 H fun t56 H =>
  ldK .none H t56 fun t57 H =>
  pFa 4 t3 H fun t58 H =>
  ldK .none H t58 fun t59 H =>
  pC call 105 [t55, t57, t59] H fun t60 H =>
  S68_8 call t53 t60 H) (S68_8 call t53 U H)
noncomputable def S68_10 (_ : CallFn) (t87 t93 : AV) (H : AHeap) : R :=
  pPick t87 t93 (.bool false) H fun t94 H =>
  some (t94, H)
noncomputable def S68_11 (_ : CallFn) (t109 t115 : AV) (H : AHeap) : R :=
  pPick t109 t115 (.bool false) H fun t116 H =>
  some (t116, H)
noncomputable def S68_12 (_ : CallFn) (t130 t134 : AV) (H : AHeap) : R :=
  pPick t130 t134 (.bool false) H fun t135 H =>
  some (t135, H)
noncomputable def S68_13 (call : CallFn) (t3 t4 t124 t128 : AV) (H : AHeap) : R :=
  pPick t124 t128 (.bool false) H fun t129 H =>
  guardA t129 true (ldK .none H t4 fun t131 H =>
  pFa 3 t3 H fun t132 H =>
  ldK .none H t132 fun t133 H =>
  pV call t131 [t133] H fun t134 H =>
  S68_12 call t129 t134 H) (S68_12 call t129 U H)
noncomputable def S68_14 (call : CallFn) (t1 t3 t4 t5 t20 t22 : AV) (H : AHeap) : R :=
  pPick t20 (.bool true) t22 H fun t23 H =>
  onBool t23 (some ((.bool false), H)) (pEql t5 (.int .i64 (.ofNat 20)) H fun t26 H =>
  onBool t26 (ldK .none H t4 fun t27 H =>
  pFa 1 t3 H fun t28 H =>
  ldK .none H t28 fun t29 H =>
  pV call t27 [t29] H fun t30 H =>
  guardA t30 true (ldK .none H t1 fun t32 H =>
  S68_7 call t1 t3 t30 t32 H) (S68_7 call t1 t3 t30 U H)) (pEql t5 (.int .i64 (.ofNat 21)) H fun t43 H =>
  onBool t43 (ldK .none H t4 fun t44 H =>
  pFa 1 t3 H fun t45 H =>
  ldK .none H t45 fun t46 H =>
  pV call t44 [t46] H fun t47 H =>
  guardA t47 true (ldK .none H t1 fun t49 H =>
  pFa 2 t3 H fun t50 H =>
  ldK .none H t50 fun t51 H =>
  pC call 104 [t49, t51] H fun t52 H =>
  S68_9 call t1 t3 t47 t52 H) (S68_9 call t1 t3 t47 U H)) (pEql t5 (.int .i64 (.ofNat 22)) H fun t64 H =>
  onBool t64 (ldK .none H t4 fun t65 H =>
  pFa 1 t3 H fun t66 H =>
  ldK .none H t66 fun t67 H =>
  pV call t65 [t67] H fun t68 H =>
  some (t68, H)) (pEql t5 (.int .i64 (.ofNat 23)) H fun t71 H =>
  onBool t71 (ldK .none H t1 fun t72 H =>
  pFa 2 t3 H fun t73 H =>
  ldK .none H t73 fun t74 H =>
  ldK .none H t1 fun t75 H =>
  pFa 1 t3 H fun t76 H =>
  ldK .none H t76 fun t77 H =>
  pC call 106 [t75, t77] H fun t78 H =>
  andR (andB (ckV (aLoad .none H t1) t72) (andB (ckV (aLoad .none H t73) t74) true)) (
  pC call 105 [t72, t74, t78] H fun t79 H =>
  some (t79, H))) (pEql t5 (.int .i64 (.ofNat 24)) H fun t82 H =>
  onBool t82 (ldK .none H t1 fun t83 H =>
  pFa 1 t3 H fun t84 H =>
  ldK .none H t84 fun t85 H =>
  pC call 104 [t83, t85] H fun t86 H =>
  guardA t86 true (ldK .none H t1 fun t88 H =>
  pFa 2 t3 H fun t89 H =>
  ldK .none H t89 fun t90 H =>
  pFa 3 t3 H fun t91 H =>
  ldK .none H t91 fun t92 H =>
  pC call 105 [t88, t90, t92] H fun t93 H =>
  S68_10 call t86 t93 H) (S68_10 call t86 U H)) (pEql t5 (.int .i64 (.ofNat 36)) H fun t97 H =>
  onBool t97 (ldK .none H t1 fun t99 H =>
  pFa 2 t3 H fun t100 H =>
  ldK .none H t100 fun t101 H =>
  pC call 107 [t99, t101] H fun t102 H =>
  pExt t102 0 H fun t103 H =>
  pExt t102 1 H fun _ H =>
  pNew [(.int .i64 (.ofNat 0)), (.int .i64 (.ofNat 0)), (.int .i64 (.ofNat 0)), (.int .i64 (.ofNat 0)), .nilsl, .nilsl, .nilsl] H fun t6 H =>
  stK 7 H t6 t103 fun _ H =>
  ldK .none H t1 fun t105 H =>
  pFa 1 t3 H fun t106 H =>
  ldK .none H t106 fun t107 H =>
  pC call 104 [t105, t107] H fun t108 H =>
  guardA t108 true (ldK .none H t1 fun t110 H =>
  pFa 3 t3 H fun t111 H =>
  ldK .none H t111 fun t112 H =>
  pFa 1 t6 H fun t113 H =>
  ldK .none H t113 fun t114 H =>
  pC call 105 [t110, t112, t114] H fun t115 H =>
  S68_11 call t108 t115 H) (S68_11 call t108 U H)) (pEql t5 (.int .i64 (.ofNat 39)) H fun t119 H =>
  onBool t119 (ldK .none H t4 fun t120 H =>
  pFa 1 t3 H fun t121 H =>
  ldK .none H t121 fun t122 H =>
  pV call t120 [t122] H fun t123 H =>
  guardA t123 true (ldK .none H t1 fun t125 H =>
  pFa 2 t3 H fun t126 H =>
  ldK .none H t126 fun t127 H =>
  pC call 104 [t125, t127] H fun t128 H =>
  S68_13 call t3 t4 t123 t128 H) (S68_13 call t3 t4 t123 U H)) (pEql t5 (.int .i64 (.ofNat 41)) H fun t138 H =>
  onBool t138 (ldK .none H t1 fun t140 H =>
  pC call 108 [t140] H fun t141 H =>
  pExt t141 0 H fun t142 H =>
  pExt t141 1 H fun _ H =>
  pC call 109 [t142, (.fn 110 [] [t1, t4])] H fun t146 H =>
  pO (aUn .not t146) H fun t147 H =>
  some (t147, H)) (ldK .none H t1 fun t148 H =>
  pO (aNil t148) H fun t149 H =>
  pFa 0 t149 H fun t150 H =>
  ldK (.some 6) H t150 fun t151 H =>
  ldK (.some 5) H t3 fun t152 H =>
  ldK (.some 5) H t3 fun t154 H =>
  pC call 101 [t151, t152] H fun t153 H =>
  andR (andB (ckV (aLoad (.some 5) H t3) t154) true) (
  pC call 102 [t154] H fun t155 H =>
  pW (aApp 1 8 H t153 t155) fun t156 H =>
  pC call 111 [t156, (.fn 112 [] [t1])] H fun t158 H =>
  pO (aUn .not t158) H fun t159 H =>
  some (t159, H)))))))))))
noncomputable def S68_15 (call : CallFn) (t0 : AV) (H : AHeap) : R :=
  pBox t0 H fun t1 H =>
  ldK .none H t1 fun t10 H =>
  pO (aNil t10) H fun t11 H =>
  pFa 17 t11 H fun t12 H =>
  ldK (.some 5) H t12 fun t13 H =>
  pNew [(.int .i64 (.ofNat 0)), (.int .i64 (.ofNat 0)), (.int .i64 (.ofNat 0)), (.int .i64 (.ofNat 0)), (.int .i64 (.ofNat 0))] H fun t3 H =>
  stK 5 H t3 t13 fun _ H =>
  pNew [.nilfn] H fun t4 H =>
  stK 1 H t4 (.fn 103 [] [t1]) fun _ H =>
  pFa 0 t3 H fun t15 H =>
  ldK .none H t15 fun t16 H =>
  pLss t16 (.int .i64 (.ofNat 0)) H fun t19 H =>
  guardA t19 false (pGtr t16 (.int .i64 (.ofNat 44)) H fun t22 H =>
  S68_14 call t1 t3 t4 t16 t19 t22 H) (S68_14 call t1 t3 t4 t16 t19 U H)
noncomputable def S68 : Ff := ⟨fun call l H => argA1 (fun t0 => S68_15 call t0 H) l⟩
/- (*gantline/verify.checker).there -/
noncomputable def S69_0 (_ : CallFn) (t21 t30 : AV) (H : AHeap) : R :=
  pPick t21 t30 (.bool false) H fun t31 H =>
  some (t31, H)
noncomputable def S69_1 (call : CallFn) (t21 t23 t29 : AV) (H : AHeap) : R :=
  guardA t21 true (pLss t23 t29 H fun t30 H =>
  S69_0 call t21 t30 H) (S69_0 call t21 U H)
noncomputable def S69_2 (call : CallFn) (t21 t23 t28 : AV) (H : AHeap) : R :=
  guardA t21 true (pO (aLen .sl H t28) H fun t29 H =>
  S69_1 call t21 t23 t29 H) (S69_1 call t21 t23 U H)
noncomputable def S69_3 (call : CallFn) (t21 t23 t27 : AV) (H : AHeap) : R :=
  guardA t21 true (ldK .none H t27 fun t28 H =>
  S69_2 call t21 t23 t28 H) (S69_2 call t21 t23 U H)
noncomputable def S69_4 (call : CallFn) (t21 t23 t26 : AV) (H : AHeap) : R :=
  guardA t21 true (pFa 2 t26 H fun t27 H =>
  S69_3 call t21 t23 t27 H) (S69_3 call t21 t23 U H)
noncomputable def S69_5 (call : CallFn) (t21 t23 t25 : AV) (H : AHeap) : R :=
  guardA t21 true (pFa 0 t25 H fun t26 H =>
  S69_4 call t21 t23 t26 H) (S69_4 call t21 t23 U H)
noncomputable def S69_6 (call : CallFn) (t21 t23 t24 : AV) (H : AHeap) : R :=
  guardA t21 true (pO (aNil t24) H fun t25 H =>
  S69_5 call t21 t23 t25 H) (S69_5 call t21 t23 U H)
noncomputable def S69_7 (call : CallFn) (t0 t21 t23 : AV) (H : AHeap) : R :=
  guardA t21 true (S69_6 call t21 t23 t0 H) (S69_6 call t21 t23 U H)
noncomputable def S69_8 (call : CallFn) (t0 t21 t22 : AV) (H : AHeap) : R :=
  guardA t21 true (ldK .none H t22 fun t23 H =>
  S69_7 call t0 t21 t23 H) (S69_7 call t0 t21 U H)
noncomputable def S69_9 (_ : CallFn) (t55 t64 : AV) (H : AHeap) : R :=
  pPick t55 t64 (.bool false) H fun t65 H =>
  some (t65, H)
noncomputable def S69_10 (call : CallFn) (t55 t57 t63 : AV) (H : AHeap) : R :=
  guardA t55 true (pLss t57 t63 H fun t64 H =>
  S69_9 call t55 t64 H) (S69_9 call t55 U H)
noncomputable def S69_11 (call : CallFn) (t55 t57 t62 : AV) (H : AHeap) : R :=
  guardA t55 true (pO (aLen .sl H t62) H fun t63 H =>
  S69_10 call t55 t57 t63 H) (S69_10 call t55 t57 U H)
noncomputable def S69_12 (call : CallFn) (t55 t57 t61 : AV) (H : AHeap) : R :=
  guardA t55 true (ldK .none H t61 fun t62 H =>
  S69_11 call t55 t57 t62 H) (S69_11 call t55 t57 U H)
noncomputable def S69_13 (call : CallFn) (t55 t57 t60 : AV) (H : AHeap) : R :=
  guardA t55 true (pFa 1 t60 H fun t61 H =>
  S69_12 call t55 t57 t61 H) (S69_12 call t55 t57 U H)
noncomputable def S69_14 (call : CallFn) (t55 t57 t59 : AV) (H : AHeap) : R :=
  guardA t55 true (pFa 0 t59 H fun t60 H =>
  S69_13 call t55 t57 t60 H) (S69_13 call t55 t57 U H)
noncomputable def S69_15 (call : CallFn) (t55 t57 t58 : AV) (H : AHeap) : R :=
  guardA t55 true (pO (aNil t58) H fun t59 H =>
  S69_14 call t55 t57 t59 H) (S69_14 call t55 t57 U H)
noncomputable def S69_16 (call : CallFn) (t0 t55 t57 : AV) (H : AHeap) : R :=
  guardA t55 true (S69_15 call t55 t57 t0 H) (S69_15 call t55 t57 U H)
noncomputable def S69_17 (call : CallFn) (t0 t55 t56 : AV) (H : AHeap) : R :=
  guardA t55 true (ldK .none H t56 fun t57 H =>
  S69_16 call t0 t55 t57 H) (S69_16 call t0 t55 U H)
noncomputable def S69_18 (_ : CallFn) (t71 t80 : AV) (H : AHeap) : R :=
  pPick t71 t80 (.bool false) H fun t81 H =>
  some (t81, H)
noncomputable def S69_19 (call : CallFn) (t71 t73 t79 : AV) (H : AHeap) : R :=
  guardA t71 true (pLss t73 t79 H fun t80 H =>
  S69_18 call t71 t80 H) (S69_18 call t71 U H)
noncomputable def S69_20 (call : CallFn) (t71 t73 t78 : AV) (H : AHeap) : R :=
  guardA t71 true (pO (aLen .sl H t78) H fun t79 H =>
  S69_19 call t71 t73 t79 H) (S69_19 call t71 t73 U H)
noncomputable def S69_21 (call : CallFn) (t71 t73 t77 : AV) (H : AHeap) : R :=
  guardA t71 true (ldK .none H t77 fun t78 H =>
  S69_20 call t71 t73 t78 H) (S69_20 call t71 t73 U H)
noncomputable def S69_22 (call : CallFn) (t71 t73 t76 : AV) (H : AHeap) : R :=
  guardA t71 true (pFa 1 t76 H fun t77 H =>
  S69_21 call t71 t73 t77 H) (S69_21 call t71 t73 U H)
noncomputable def S69_23 (call : CallFn) (t71 t73 t75 : AV) (H : AHeap) : R :=
  guardA t71 true (pFa 0 t75 H fun t76 H =>
  S69_22 call t71 t73 t76 H) (S69_22 call t71 t73 U H)
noncomputable def S69_24 (call : CallFn) (t71 t73 t74 : AV) (H : AHeap) : R :=
  guardA t71 true (pO (aNil t74) H fun t75 H =>
  S69_23 call t71 t73 t75 H) (S69_23 call t71 t73 U H)
noncomputable def S69_25 (call : CallFn) (t0 t71 t73 : AV) (H : AHeap) : R :=
  guardA t71 true (S69_24 call t71 t73 t0 H) (S69_24 call t71 t73 U H)
noncomputable def S69_26 (call : CallFn) (t0 t71 t72 : AV) (H : AHeap) : R :=
  guardA t71 true (ldK .none H t72 fun t73 H =>
  S69_25 call t0 t71 t73 H) (S69_25 call t0 t71 U H)
noncomputable def S69_27 (_ : CallFn) (t92 t95 : AV) (H : AHeap) : R :=
  pPick t92 t95 (.bool false) H fun t96 H =>
  some (t96, H)
noncomputable def S69_28 (_ : CallFn) (t112 t115 : AV) (H : AHeap) : R :=
  pPick t112 t115 (.bool false) H fun t116 H =>
  some (t116, H)
noncomputable def S69_29 (call : CallFn) (t6 t107 t110 : AV) (H : AHeap) : R :=
  pPick t107 t110 (.bool false) H fun t111 H =>
  guardA t111 true (pFa 3 t6 H fun t113 H =>
  ldK .none H t113 fun t114 H =>
  pEql t114 (.int .i64 (.ofNat 0)) H fun t115 H =>
  S69_28 call t111 t115 H) (S69_28 call t111 U H)
noncomputable def S69_30 (_ : CallFn) (t142 t145 : AV) (H : AHeap) : R :=
  pPick t142 t145 (.bool false) H fun t146 H =>
  some (t146, H)
noncomputable def S69_31 (call : CallFn) (t0 : AV) (H : AHeap) : R :=
  pO (aNil t0) H fun t11 H =>
  pFa 17 t11 H fun t12 H =>
  ldK (.some 5) H t12 fun t13 H =>
  pNew [(.int .i64 (.ofNat 0)), (.int .i64 (.ofNat 0)), (.int .i64 (.ofNat 0)), (.int .i64 (.ofNat 0)), (.int .i64 (.ofNat 0))] H fun t3 H =>
  stK 5 H t3 t13 fun _ H =>
  pFa 0 t3 H fun t14 H =>
  ldK .none H t14 fun t15 H =>
  pEql t15 (.int .i64 (.ofNat 0)) H fun t17 H =>
  onBool t17 (pFa 2 t3 H fun t18 H =>
  ldK .none H t18 fun t19 H =>
  pGeq t19 (.int .i64 (.ofNat 0)) H fun t20 H =>
  guardA t20 true (pFa 2 t3 H fun t22 H =>
  S69_8 call t0 t20 t22 H) (S69_8 call t0 t20 U H)) (pEql t15 (.int .i64 (.ofNat 25)) H fun t33 H =>
  onBool t33 (pFa 2 t3 H fun t35 H =>
  ldK .none H t35 fun t36 H =>
  pC call 113 [t0, t36, (.int .i64 (.ofNat 0))] H fun t37 H =>
  some (t37, H)) (pEql t15 (.int .i64 (.ofNat 26)) H fun t39 H =>
  onBool t39 (pFa 2 t3 H fun t41 H =>
  ldK .none H t41 fun t42 H =>
  pC call 113 [t0, t42, (.int .i64 (.ofNat 1))] H fun t43 H =>
  some (t43, H)) (pEql t15 (.int .i64 (.ofNat 37)) H fun t45 H =>
  onBool t45 (pFa 2 t3 H fun t47 H =>
  ldK .none H t47 fun t48 H =>
  pC call 113 [t0, t48, (.int .i64 (.ofNat 3))] H fun t49 H =>
  some (t49, H)) (pEql t15 (.int .i64 (.ofNat 34)) H fun t51 H =>
  onBool t51 (pFa 2 t3 H fun t52 H =>
  ldK .none H t52 fun t53 H =>
  pGeq t53 (.int .i64 (.ofNat 0)) H fun t54 H =>
  guardA t54 true (pFa 2 t3 H fun t56 H =>
  S69_17 call t0 t54 t56 H) (S69_17 call t0 t54 U H)) (pEql t15 (.int .i64 (.ofNat 35)) H fun t67 H =>
  onBool t67 (pFa 1 t3 H fun t68 H =>
  ldK .none H t68 fun t69 H =>
  pGeq t69 (.int .i64 (.ofNat 0)) H fun t70 H =>
  guardA t70 true (pFa 1 t3 H fun t72 H =>
  S69_26 call t0 t70 t72 H) (S69_26 call t0 t70 U H)) (pEql t15 (.int .i64 (.ofNat 20)) H fun t83 H =>
  onBool t83 (pFa 2 t3 H fun t86 H =>
  ldK .none H t86 fun t87 H =>
  pC call 107 [t0, t87] H fun t88 H =>
  pExt t88 0 H fun t89 H =>
  pExt t88 1 H fun t90 H =>
  pNew [(.int .i64 (.ofNat 0)), (.int .i64 (.ofNat 0)), (.int .i64 (.ofNat 0)), (.int .i64 (.ofNat 0)), .nilsl, .nilsl, .nilsl] H fun t4 H =>
  stK 7 H t4 t89 fun _ H =>
  guardA t90 true (pFa 1 t4 H fun t93 H =>
  ldK .none H t93 fun t94 H =>
  pEql t94 (.int .i64 (.ofNat 0)) H fun t95 H =>
  S69_27 call t90 t95 H) (S69_27 call t90 U H)) (pEql t15 (.int .i64 (.ofNat 23)) H fun t98 H =>
  onBool t98 (pFa 1 t3 H fun t101 H =>
  ldK .none H t101 fun t102 H =>
  pC call 107 [t0, t102] H fun t103 H =>
  pExt t103 0 H fun t104 H =>
  pExt t103 1 H fun t105 H =>
  pNew [(.int .i64 (.ofNat 0)), (.int .i64 (.ofNat 0)), (.int .i64 (.ofNat 0)), (.int .i64 (.ofNat 0)), .nilsl, .nilsl, .nilsl] H fun t6 H =>
  stK 7 H t6 t104 fun _ H =>
  guardA t105 true (pFa 1 t6 H fun t108 H =>
  ldK .none H t108 fun t109 H =>
  pEql t109 (.int .i64 (.ofNat 0)) H fun t110 H =>
  S69_29 call t6 t105 t110 H) (S69_29 call t6 t105 U H)) (pEql t15 (.int .i64 (.ofNat 36)) H fun t118 H =>
  onBool t118 (pFa 2 t3 H fun t121 H =>
  ldK .none H t121 fun t122 H =>
  pC call 107 [t0, t122] H fun t123 H =>
  pExt t123 0 H fun t124 H =>
  pExt t123 1 H fun t125 H =>
  pNew [(.int .i64 (.ofNat 0)), (.int .i64 (.ofNat 0)), (.int .i64 (.ofNat 0)), (.int .i64 (.ofNat 0)), .nilsl, .nilsl, .nilsl] H fun t8 H =>
  stK 7 H t8 t124 fun _ H =>
  some (t125, H)) (pEql t15 (.int .i64 (.ofNat 21)) H fun t128 H =>
  onBool t128 (pFa 4 t3 H fun t129 H =>
  ldK .none H t129 fun t130 H =>
  pGeq t130 (.int .i64 (.ofNat 0)) H fun t131 H =>
  some (t131, H)) (pEql t15 (.int .i64 (.ofNat 24)) H fun t133 H =>
  onBool t133 (pFa 3 t3 H fun t134 H =>
  ldK .none H t134 fun t135 H =>
  pGeq t135 (.int .i64 (.ofNat 0)) H fun t136 H =>
  some (t136, H)) (pEql t15 (.int .i64 (.ofNat 44)) H fun t138 H =>
  onBool t138 (pFa 1 t3 H fun t139 H =>
  ldK .none H t139 fun t140 H =>
  pGeq t140 (.int .i64 (.ofNat 1)) H fun t141 H =>
  guardA t141 true (pFa 1 t3 H fun t143 H =>
  ldK .none H t143 fun t144 H =>
  pLeq t144 (.int .i64 (.ofNat 6)) H fun t145 H =>
  S69_30 call t141 t145 H) (S69_30 call t141 U H)) (pEql t15 (.int .i64 (.ofNat 41)) H fun t148 H =>
  onBool t148 (pC call 114 [t0] H fun t150 H =>
  some (t150, H)) (some ((.bool true), H))))))))))))))
noncomputable def S69 : Ff := ⟨fun call l H => argA1 (fun t0 => S69_31 call t0 H) l⟩
/- (*gantline/verify.checker).kinds -/
noncomputable def S70_0 (_ : CallFn) (t86 t93 : AV) (H : AHeap) : R :=
  pPick t86 t93 (.bool false) H fun t94 H =>
  some (t94, H)
noncomputable def S70_1 (_ : CallFn) (t117 t122 : AV) (H : AHeap) : R :=
  pPick t117 t122 (.bool false) H fun t123 H =>
  some (t123, H)
noncomputable def S70_2 (_ : CallFn) (t164 t169 : AV) (H : AHeap) : R :=
  pPick t164 t169 (.bool false) H fun t170 H =>
  some (t170, H)
noncomputable def S70_3 (_ : CallFn) (t183 t188 : AV) (H : AHeap) : R :=
  pPick t183 t188 (.bool false) H fun t189 H =>
  some (t189, H)
noncomputable def S70_4 (_ : CallFn) (t198 t203 : AV) (H : AHeap) : R :=
  pPick t198 t203 (.bool false) H fun t204 H =>
  some (t204, H)
noncomputable def S70_5 (_ : CallFn) (t247 t257 : AV) (H : AHeap) : R :=
  pPick t247 t257 (.bool false) H fun t258 H =>
  some (t258, H)
noncomputable def S70_6 (call : CallFn) (t247 t251 t256 : AV) (H : AHeap) : R :=
  guardA t247 true (pPick t251 (.bool true) t256 H fun t257 H =>
  S70_5 call t247 t257 H) (S70_5 call t247 U H)
noncomputable def S70_7 (call : CallFn) (t1 t3 t247 t251 : AV) (H : AHeap) : R :=
  guardA t251 false (ldK .none H t1 fun t252 H =>
  pFa 3 t3 H fun t253 H =>
  ldK .none H t253 fun t254 H =>
  pN (aBsl 1 1 [(.int .i64 (.ofNat 0))] [(0, 1, t254)]) H fun t255 H =>
  pC call 115 [t252, (.bool false), t255] H fun t256 H =>
  S70_6 call t247 t251 t256 H) (S70_6 call t247 t251 U H)
noncomputable def S70_8 (call : CallFn) (t1 t3 t4 t174 t176 : AV) (H : AHeap) : R :=
  pPick t174 (.bool true) t176 H fun t177 H =>
  onBool t177 (ldK .none H t1 fun t178 H =>
  pFa 1 t3 H fun t179 H =>
  ldK .none H t179 fun t180 H =>
  pN (aBsl 1 1 [(.int .i64 (.ofNat 0))] [(0, 1, t180)]) H fun t181 H =>
  pC call 115 [t178, (.bool true), t181] H fun t182 H =>
  guardA t182 true (ldK .none H t1 fun t184 H =>
  pFa 2 t3 H fun t185 H =>
  ldK .none H t185 fun t186 H =>
  pN (aBsl 1 1 [(.int .i64 (.ofNat 0))] [(0, 1, t186)]) H fun t187 H =>
  pC call 115 [t184, (.bool false), t187] H fun t188 H =>
  S70_3 call t182 t188 H) (S70_3 call t182 U H)) (pEql t4 (.int .i64 (.ofNat 33)) H fun t192 H =>
  onBool t192 (ldK .none H t1 fun t193 H =>
  pFa 1 t3 H fun t194 H =>
  ldK .none H t194 fun t195 H =>
  pN (aBsl 1 1 [(.int .i64 (.ofNat 0))] [(0, 1, t195)]) H fun t196 H =>
  pC call 115 [t193, (.bool false), t196] H fun t197 H =>
  guardA t197 true (ldK .none H t1 fun t199 H =>
  pFa 2 t3 H fun t200 H =>
  ldK .none H t200 fun t201 H =>
  pN (aBsl 1 1 [(.int .i64 (.ofNat 0))] [(0, 1, t201)]) H fun t202 H =>
  pC call 115 [t199, (.bool true), t202] H fun t203 H =>
  S70_4 call t197 t203 H) (S70_4 call t197 U H)) (pEql t4 (.int .i64 (.ofNat 34)) H fun t207 H =>
  onBool t207 (ldK .none H t1 fun t208 H =>
  ldK .none H t1 fun t209 H =>
  pO (aNil t209) H fun t210 H =>
  pFa 0 t210 H fun t211 H =>
  pFa 1 t211 H fun t212 H =>
  ldK .none H t212 fun t213 H =>
  pFa 2 t3 H fun t214 H =>
  ldK .none H t214 fun t215 H =>
  pIa 1 t213 t215 H fun t216 H =>
  ldK .none H t216 fun t217 H =>
  pFa 1 t3 H fun t218 H =>
  ldK .none H t218 fun t219 H =>
  pN (aBsl 1 1 [(.int .i64 (.ofNat 0))] [(0, 1, t219)]) H fun t220 H =>
  pC call 115 [t208, t217, t220] H fun t221 H =>
  some (t221, H)) (pEql t4 (.int .i64 (.ofNat 35)) H fun t224 H =>
  onBool t224 (ldK .none H t1 fun t225 H =>
  ldK .none H t1 fun t226 H =>
  pO (aNil t226) H fun t227 H =>
  pFa 0 t227 H fun t228 H =>
  pFa 1 t228 H fun t229 H =>
  ldK .none H t229 fun t230 H =>
  pFa 1 t3 H fun t231 H =>
  ldK .none H t231 fun t232 H =>
  pIa 1 t230 t232 H fun t233 H =>
  ldK .none H t233 fun t234 H =>
  pFa 2 t3 H fun t235 H =>
  ldK .none H t235 fun t236 H =>
  pN (aBsl 1 1 [(.int .i64 (.ofNat 0))] [(0, 1, t236)]) H fun t237 H =>
  pC call 115 [t225, t234, t237] H fun t238 H =>
  some (t238, H)) (pEql t4 (.int .i64 (.ofNat 39)) H fun t241 H =>
  onBool t241 (ldK .none H t1 fun t242 H =>
  pFa 2 t3 H fun t243 H =>
  ldK .none H t243 fun t244 H =>
  pN (aBsl 1 1 [(.int .i64 (.ofNat 0))] [(0, 1, t244)]) H fun t245 H =>
  pC call 115 [t242, (.bool true), t245] H fun t246 H =>
  guardA t246 true (pFa 3 t3 H fun t248 H =>
  ldK .none H t248 fun t249 H =>
  pEql t249 (.int .i64 (.negSucc 0)) H fun t250 H =>
  S70_7 call t1 t3 t246 t250 H) (S70_7 call t1 t3 t246 U H)) (pEql t4 (.int .i64 (.ofNat 41)) H fun t261 H =>
  onBool t261 (ldK .none H t1 fun t263 H =>
  pC call 108 [t263] H fun t264 H =>
  pExt t264 0 H fun t265 H =>
  pExt t264 1 H fun _ H =>
  pC call 109 [t265, (.fn 116 [] [t1])] H fun t269 H =>
  pO (aUn .not t269) H fun t270 H =>
  some (t270, H)) (ldK .none H t1 fun t271 H =>
  pC call 117 [t271] H fun t272 H =>
  some (t272, H)))))))
noncomputable def S70_9 (call : CallFn) (t1 t3 t4 t147 t149 : AV) (H : AHeap) : R :=
  pPick t147 (.bool true) t149 H fun t150 H =>
  onBool t150 (ldK .none H t1 fun t151 H =>
  pFa 1 t3 H fun t152 H =>
  ldK .none H t152 fun t153 H =>
  pN (aBsl 1 1 [(.int .i64 (.ofNat 0))] [(0, 1, t153)]) H fun t154 H =>
  pC call 115 [t151, (.bool true), t154] H fun t155 H =>
  some (t155, H)) (pEql t4 (.int .i64 (.ofNat 30)) H fun t158 H =>
  onBool t158 (ldK .none H t1 fun t159 H =>
  pFa 2 t3 H fun t160 H =>
  ldK .none H t160 fun t161 H =>
  pN (aBsl 1 1 [(.int .i64 (.ofNat 0))] [(0, 1, t161)]) H fun t162 H =>
  pC call 115 [t159, (.bool true), t162] H fun t163 H =>
  guardA t163 true (ldK .none H t1 fun t165 H =>
  pFa 3 t3 H fun t166 H =>
  ldK .none H t166 fun t167 H =>
  pN (aBsl 1 1 [(.int .i64 (.ofNat 0))] [(0, 1, t167)]) H fun t168 H =>
  pC call 115 [t165, (.bool false), t168] H fun t169 H =>
  S70_2 call t163 t169 H) (S70_2 call t163 U H)) (pEql t4 (.int .i64 (.ofNat 31)) H fun t173 H =>
  guardA t173 false (pEql t4 (.int .i64 (.ofNat 32)) H fun t176 H =>
  S70_8 call t1 t3 t4 t173 t176 H) (S70_8 call t1 t3 t4 t173 U H)))
noncomputable def S70_10 (call : CallFn) (t1 t3 t4 t143 t145 : AV) (H : AHeap) : R :=
  pPick t143 (.bool true) t145 H fun t146 H =>
  guardA t146 false (pEql t4 (.int .i64 (.ofNat 38)) H fun t149 H =>
  S70_9 call t1 t3 t4 t146 t149 H) (S70_9 call t1 t3 t4 t146 U H)
noncomputable def S70_11 (call : CallFn) (t1 t3 t4 t139 t141 : AV) (H : AHeap) : R :=
  pPick t139 (.bool true) t141 H fun t142 H =>
  guardA t142 false (pEql t4 (.int .i64 (.ofNat 24)) H fun t145 H =>
  S70_10 call t1 t3 t4 t142 t145 H) (S70_10 call t1 t3 t4 t142 U H)
noncomputable def S70_12 (call : CallFn) (t1 t3 t4 t127 t129 : AV) (H : AHeap) : R :=
  pPick t127 (.bool true) t129 H fun t130 H =>
  onBool t130 (ldK .none H t1 fun t131 H =>
  pFa 2 t3 H fun t132 H =>
  ldK .none H t132 fun t133 H =>
  pN (aBsl 1 1 [(.int .i64 (.ofNat 0))] [(0, 1, t133)]) H fun t134 H =>
  pC call 115 [t131, (.bool true), t134] H fun t135 H =>
  some (t135, H)) (pEql t4 (.int .i64 (.ofNat 28)) H fun t138 H =>
  guardA t138 false (pEql t4 (.int .i64 (.ofNat 29)) H fun t141 H =>
  S70_11 call t1 t3 t4 t138 t141 H) (S70_11 call t1 t3 t4 t138 U H))
noncomputable def S70_13 (call : CallFn) (t1 t3 t4 t108 t110 : AV) (H : AHeap) : R :=
  pPick t108 (.bool true) t110 H fun t111 H =>
  onBool t111 (ldK .none H t1 fun t112 H =>
  pFa 1 t3 H fun t113 H =>
  ldK .none H t113 fun t114 H =>
  pN (aBsl 1 1 [(.int .i64 (.ofNat 0))] [(0, 1, t114)]) H fun t115 H =>
  pC call 115 [t112, (.bool true), t115] H fun t116 H =>
  guardA t116 true (ldK .none H t1 fun t118 H =>
  pFa 3 t3 H fun t119 H =>
  ldK .none H t119 fun t120 H =>
  pN (aBsl 1 1 [(.int .i64 (.ofNat 0))] [(0, 1, t120)]) H fun t121 H =>
  pC call 115 [t118, (.bool false), t121] H fun t122 H =>
  S70_1 call t116 t122 H) (S70_1 call t116 U H)) (pEql t4 (.int .i64 (.ofNat 27)) H fun t126 H =>
  guardA t126 false (pEql t4 (.int .i64 (.ofNat 21)) H fun t129 H =>
  S70_12 call t1 t3 t4 t126 t129 H) (S70_12 call t1 t3 t4 t126 U H))
noncomputable def S70_14 (call : CallFn) (t1 t3 t4 t65 t67 : AV) (H : AHeap) : R :=
  pPick t65 t67 (.bool false) H fun t68 H =>
  onBool t68 (ldK .none H t1 fun t69 H =>
  pFa 1 t3 H fun t70 H =>
  ldK .none H t70 fun t71 H =>
  pFa 2 t3 H fun t72 H =>
  ldK .none H t72 fun t73 H =>
  pFa 3 t3 H fun t74 H =>
  ldK .none H t74 fun t75 H =>
  pN (aBsl 1 3 [(.int .i64 (.ofNat 0))] [(0, 1, t71), (1, 1, t73), (2, 1, t75)]) H fun t76 H =>
  pC call 115 [t69, (.bool false), t76] H fun t77 H =>
  some (t77, H)) (pEql t4 (.int .i64 (.ofNat 16)) H fun t80 H =>
  onBool t80 (ldK .none H t1 fun t81 H =>
  pFa 1 t3 H fun t82 H =>
  ldK .none H t82 fun t83 H =>
  pN (aBsl 1 1 [(.int .i64 (.ofNat 0))] [(0, 1, t83)]) H fun t84 H =>
  pC call 115 [t81, (.bool false), t84] H fun t85 H =>
  guardA t85 true (ldK .none H t1 fun t87 H =>
  pFa 2 t3 H fun t88 H =>
  ldK .none H t88 fun t89 H =>
  pFa 3 t3 H fun t90 H =>
  ldK .none H t90 fun t91 H =>
  pN (aBsl 1 2 [(.int .i64 (.ofNat 0))] [(0, 1, t89), (1, 1, t91)]) H fun t92 H =>
  pC call 115 [t87, (.bool true), t92] H fun t93 H =>
  S70_0 call t85 t93 H) (S70_0 call t85 U H)) (pEql t4 (.int .i64 (.ofNat 17)) H fun t97 H =>
  onBool t97 (ldK .none H t1 fun t98 H =>
  pFa 1 t3 H fun t99 H =>
  ldK .none H t99 fun t100 H =>
  pFa 2 t3 H fun t101 H =>
  ldK .none H t101 fun t102 H =>
  pN (aBsl 1 2 [(.int .i64 (.ofNat 0))] [(0, 1, t100), (1, 1, t102)]) H fun t103 H =>
  pC call 115 [t98, (.bool false), t103] H fun t104 H =>
  some (t104, H)) (pEql t4 (.int .i64 (.ofNat 26)) H fun t107 H =>
  guardA t107 false (pEql t4 (.int .i64 (.ofNat 37)) H fun t110 H =>
  S70_13 call t1 t3 t4 t107 t110 H) (S70_13 call t1 t3 t4 t107 U H))))
noncomputable def S70_15 (call : CallFn) (t1 t3 t4 t53 t55 : AV) (H : AHeap) : R :=
  pPick t53 (.bool true) t55 H fun t56 H =>
  onBool t56 (ldK .none H t1 fun t57 H =>
  pFa 1 t3 H fun t58 H =>
  ldK .none H t58 fun t59 H =>
  pN (aBsl 1 1 [(.int .i64 (.ofNat 0))] [(0, 1, t59)]) H fun t60 H =>
  pC call 115 [t57, (.bool true), t60] H fun t61 H =>
  some (t61, H)) (pGeq t4 (.int .i64 (.ofNat 3)) H fun t64 H =>
  guardA t64 true (pLeq t4 (.int .i64 (.ofNat 15)) H fun t67 H =>
  S70_14 call t1 t3 t4 t64 t67 H) (S70_14 call t1 t3 t4 t64 U H))
noncomputable def S70_16 (call : CallFn) (t1 t3 t4 t49 t51 : AV) (H : AHeap) : R :=
  pPick t49 (.bool true) t51 H fun t52 H =>
  guardA t52 false (pEql t4 (.int .i64 (.ofNat 40)) H fun t55 H =>
  S70_15 call t1 t3 t4 t52 t55 H) (S70_15 call t1 t3 t4 t52 U H)
noncomputable def S70_17 (call : CallFn) (t1 t3 t4 t20 t22 : AV) (H : AHeap) : R :=
  pPick t20 (.bool true) t22 H fun t23 H =>
  onBool t23 (ldK .none H t1 fun t24 H =>
  pFa 1 t3 H fun t25 H =>
  ldK .none H t25 fun t26 H =>
  pN (aBsl 1 1 [(.int .i64 (.ofNat 0))] [(0, 1, t26)]) H fun t27 H =>
  pC call 115 [t24, (.bool false), t27] H fun t28 H =>
  some (t28, H)) (pEql t4 (.int .i64 (.ofNat 1)) H fun t31 H =>
  onBool t31 (ldK .none H t1 fun t32 H =>
  ldK .none H t1 fun t33 H =>
  pO (aNil t33) H fun t34 H =>
  pFa 6 t34 H fun t35 H =>
  pFa 4 t35 H fun t36 H =>
  ldK .none H t36 fun t37 H =>
  pFa 2 t3 H fun t38 H =>
  ldK .none H t38 fun t39 H =>
  pIa 1 t37 t39 H fun t40 H =>
  ldK .none H t40 fun t41 H =>
  pFa 1 t3 H fun t42 H =>
  ldK .none H t42 fun t43 H =>
  pN (aBsl 1 1 [(.int .i64 (.ofNat 0))] [(0, 1, t43)]) H fun t44 H =>
  pC call 115 [t32, t41, t44] H fun t45 H =>
  some (t45, H)) (pEql t4 (.int .i64 (.ofNat 2)) H fun t48 H =>
  guardA t48 false (pEql t4 (.int .i64 (.ofNat 25)) H fun t51 H =>
  S70_16 call t1 t3 t4 t48 t51 H) (S70_16 call t1 t3 t4 t48 U H)))
noncomputable def S70_18 (call : CallFn) (t1 t3 t4 t16 t18 : AV) (H : AHeap) : R :=
  pPick t16 (.bool true) t18 H fun t19 H =>
  guardA t19 false (pEql t4 (.int .i64 (.ofNat 42)) H fun t22 H =>
  S70_17 call t1 t3 t4 t19 t22 H) (S70_17 call t1 t3 t4 t19 U H)
noncomputable def S70_19 (call : CallFn) (t0 : AV) (H : AHeap) : R :=
  pBox t0 H fun t1 H =>
  ldK .none H t1 fun t7 H =>
  pO (aNil t7) H fun t8 H =>
  pFa 17 t8 H fun t9 H =>
  ldK (.some 5) H t9 fun t10 H =>
  pNew [(.int .i64 (.ofNat 0)), (.int .i64 (.ofNat 0)), (.int .i64 (.ofNat 0)), (.int .i64 (.ofNat 0)), (.int .i64 (.ofNat 0))] H fun t3 H =>
  stK 5 H t3 t10 fun _ H =>
  pFa 0 t3 H fun t11 H =>
  ldK .none H t11 fun t12 H =>
  pEql t12 (.int .i64 (.ofNat 0)) H fun t15 H =>
  guardA t15 false (pEql t12 (.int .i64 (.ofNat 19)) H fun t18 H =>
  S70_18 call t1 t3 t12 t15 t18 H) (S70_18 call t1 t3 t12 t15 U H)
noncomputable def S70 : Ff := ⟨fun call l H => argA1 (fun t0 => S70_19 call t0 H) l⟩
/- (*gantline/verify.checker).on -/
noncomputable def S71_0 (_ : CallFn) (t42 : AV) (H : AHeap) : R :=
  onBool t42 (some ((.bool true), H)) (some ((.bool false), H))
noncomputable def S71_1 (call : CallFn) (t0 : AV) (H : AHeap) : R :=
  pO (aNil t0) H fun t26 H =>
  pFa 16 t26 H fun t27 H =>
  ldK .none H t27 fun t28 H =>
  pO (aNil t0) H fun t30 H =>
  pFa 6 t30 H fun t31 H =>
  pFa 5 t31 H fun t32 H =>
  ldK .none H t32 fun t33 H =>
  pO (aLen .sl H t33) H fun t34 H =>
  pSub t34 (.int .i64 (.ofNat 1)) H fun t35 H =>
  pLss t28 t35 H fun t36 H =>
  onBool t36 (some ((.bool true), H)) (pO (aNil t0) H fun t38 H =>
  pFa 17 t38 H fun t39 H =>
  pFa 0 t39 H fun t40 H =>
  ldK .none H t40 fun t41 H =>
  pEql t41 (.int .i64 (.ofNat 18)) H fun t43 H =>
  onBool t43 (S71_0 call t43 H) (pEql t41 (.int .i64 (.ofNat 22)) H fun t44 H =>
  onBool t44 (S71_0 call t44 H) (pEql t41 (.int .i64 (.ofNat 44)) H fun t45 H =>
  onBool t45 (S71_0 call t45 H) (pEql t41 (.int .i64 (.ofNat 41)) H fun t46 H =>
  S71_0 call t46 H))))
noncomputable def S71_3 (_ : CallFn) (q0 : AV → AV → AV → AV → AHeap → R) (t0 t6 t7 t8 t14 t22 : AV) (H : AHeap) : R :=
  pPick t14 (.bool true) t22 H fun t23 H =>
  onBool t23 (some ((.bool false), H)) (pAdd t8 (.int .i64 (.ofNat 1)) H fun t24 H =>
  q0 t0 t6 t7 t24 H)
noncomputable def S71_2 (call : CallFn) (n : Nat) : AV → AV → AV → AV → AHeap → R :=
  Nat.rec (motive := fun _ => AV → AV → AV → AV → AHeap → R) (fun _ _ _ _ _ => none) (fun _ q0 t0 t6 t7 t8 H => pLss t8 t7 H fun t9 H =>
  onBool t9 (pIa 1 t6 t8 H fun t10 H =>
  ldK .none H t10 fun t11 H =>
  pLss t11 (.int .i64 (.ofNat 0)) H fun t13 H =>
  guardA t13 false (pO (aNil t0) H fun t17 H =>
  pFa 6 t17 H fun t18 H =>
  pFa 5 t18 H fun t19 H =>
  ldK .none H t19 fun t20 H =>
  pO (aLen .sl H t20) H fun t21 H =>
  pGeq t11 t21 H fun t22 H =>
  S71_3 call q0 t0 t6 t7 t8 t13 t22 H) (S71_3 call q0 t0 t6 t7 t8 t13 U H)) (S71_1 call t0 H)) n
noncomputable def S71_4 (call : CallFn) (t0 : AV) (H : AHeap) : R :=
  pC call 118 [t0] H fun t6 H =>
  pO (aLen .sl H t6) H fun t7 H =>
  S71_2 call 1000000 t0 t6 t7 (.int .i64 (.ofNat 0)) H
noncomputable def S71 : Ff := ⟨fun call l H => argA1 (fun t0 => S71_4 call t0 H) l⟩
/- (*gantline/verify.checker).bare -/
noncomputable def S73_0 (call : CallFn) (t0 : AV) (H : AHeap) : R :=
  pO (aNil t0) H fun t35 H =>
  pFa 6 t35 H fun t36 H =>
  ldK (.some 7) H t36 fun t37 H =>
  pO (aNil t0) H fun t39 H =>
  pFa 14 t39 H fun t40 H =>
  ldK .none H t40 fun t41 H =>
  pO (aNil t0) H fun t43 H =>
  pFa 16 t43 H fun t44 H =>
  ldK .none H t44 fun t45 H =>
  pC call 120 [t37, t41, t45] H fun t46 H =>
  some (t46, H)
noncomputable def S73_1 (call : CallFn) (t0 t9 t15 : AV) (H : AHeap) : R :=
  pPick t9 t15 (.bool false) H fun t16 H =>
  onBool t16 (some ((.bool true), H)) (pO (aNil t0) H fun t18 H =>
  pFa 14 t18 H fun t19 H =>
  ldK .none H t19 fun t20 H =>
  pO (aEq false .sl t20 .nilsl) H fun t21 H =>
  onBool t21 (pO (aNil t0) H fun t24 H =>
  pFa 0 t24 H fun t25 H =>
  ldK (.some 6) H t25 fun t26 H =>
  pO (aNil t0) H fun t28 H =>
  pFa 6 t28 H fun t29 H =>
  ldK (.some 7) H t29 fun t30 H =>
  pC call 119 [t26, t30] H fun t31 H =>
  pO (aNil t0) H fun t32 H =>
  pFa 14 t32 H fun t33 H =>
  stK 1 H t33 t31 fun _ H =>
  S73_0 call t0 H) (S73_0 call t0 H))
noncomputable def S73_2 (call : CallFn) (t0 : AV) (H : AHeap) : R :=
  pO (aNil t0) H fun t4 H =>
  pFa 17 t4 H fun t5 H =>
  pFa 0 t5 H fun t6 H =>
  ldK .none H t6 fun t7 H =>
  pNeq t7 (.int .i64 (.ofNat 29)) H fun t8 H =>
  guardA t8 true (pO (aNil t0) H fun t11 H =>
  pFa 17 t11 H fun t12 H =>
  pFa 0 t12 H fun t13 H =>
  ldK .none H t13 fun t14 H =>
  pNeq t14 (.int .i64 (.ofNat 32)) H fun t15 H =>
  S73_1 call t0 t8 t15 H) (S73_1 call t0 t8 U H)
noncomputable def S73 : Ff := ⟨fun call l H => argA1 (fun t0 => S73_2 call t0 H) l⟩
end Go.Proofs.YtgmcjcgnkdomnaaGreatDoor
