/- Plain functions, printed: part 0. -/
import Derived.Test.YtlmmhkcimjjakaaGreatDoorAdE
import Derived.Test.YtlmmhkcimjjakaaGreatDoorProg
import Derived.KernelRfl
namespace Go.Proofs.YtlmmhkcimjjakaaGreatDoor
open Go.Ab
set_option maxRecDepth 100000
/- gantline/gantlinelaw18.RunWays -/
noncomputable def S6_0 (call : CallFn) (t0 t3 t18 t21 : AV) (H : AHeap) : R :=
  pPick t18 (.bool true) t21 H fun t22 H =>
  onBool t22 (some ((.bool false), H)) (pO (aBin .rem t0 (.int .i64 (.ofNat 2))) H fun t24 H =>
  pEql t24 (.int .i64 (.ofNat 1)) H fun t25 H =>
  onBool t25 (pFa 0 t3 H fun t26 H =>
  ldK .none H t26 fun t27 H =>
  pO (aLen .sl H t27) H fun t28 H =>
  pEql t28 (.int .i64 (.ofNat 0)) H fun t29 H =>
  some (t29, H)) (pFa 0 t3 H fun t30 H =>
  ldK .none H t30 fun t31 H =>
  pO (aBin .quo t0 (.int .i64 (.ofNat 2))) H fun t33 H =>
  pO (aBin .rem t33 (.int .i64 (.ofNat 2))) H fun t34 H =>
  pAdd (.int .i64 (.ofNat 1)) t34 H fun t35 H =>
  pN (aBsl 1 1 [(.int .i64 (.ofNat 0))] [(0, 1, t35)]) H fun t36 H =>
  pC call 15 [t31, t36] H fun t37 H =>
  some (t37, H)))
noncomputable def S6_1 (call : CallFn) (t0 : AV) (H : AHeap) : R :=
  pC call 8 [] H fun t5 H =>
  pO (aUn .not t5) H fun t6 H =>
  onBool t6 (some ((.bool false), H)) (pLss t0 (.int .i64 (.ofNat 0)) H fun t8 H =>
  onBool t8 (some ((.bool true), H)) (pC call 17 [] H fun t10 H =>
  pN (aBsl 1 8 [(.int .i64 (.ofNat 0))] [(0, 1, (.int .i64 (.ofNat 0))), (1, 1, (.int .i64 (.ofNat 0))), (2, 1, (.int .i64 (.ofNat 0))), (3, 1, (.int .i64 (.ofNat 0))), (4, 1, (.int .i64 (.ofNat 0))), (5, 1, (.int .i64 (.ofNat 0))), (6, 1, t0), (7, 1, (.int .i64 (.ofNat 0)))]) H fun t12 H =>
  pC call 9 [t10, (.int .i64 (.ofNat 8)), t12] H fun t13 H =>
  pExt t13 0 H fun t14 H =>
  pExt t13 1 H fun t15 H =>
  pNew [.nilsl, (.int .i64 (.ofNat 0)), (.int .i64 (.ofNat 0)), (.int .i64 (.ofNat 0)), (.int .i64 (.ofNat 0)), (.int .i64 (.ofNat 0)), .nilsl] H fun t3 H =>
  stK 7 H t3 t14 fun _ H =>
  pNeq t15 (.int .i64 (.ofNat 0)) H fun t17 H =>
  guardA t17 false (pFa 3 t3 H fun t19 H =>
  ldK .none H t19 fun t20 H =>
  pNeq t20 (.int .i64 (.ofNat 8)) H fun t21 H =>
  S6_0 call t0 t3 t17 t21 H) (S6_0 call t0 t3 t17 U H)))
noncomputable def S6 : Ff := ⟨fun call l H => argA1 (fun t0 => S6_1 call t0 H) l⟩
/- gantline/gantlinelaw18.RunLags -/
noncomputable def S7_0 (_ : CallFn) (t150 t153 : AV) (H : AHeap) : R :=
  pPick t150 t153 (.bool false) H fun t154 H =>
  some (t154, H)
noncomputable def S7_1 (call : CallFn) (t10 t144 t148 : AV) (H : AHeap) : R :=
  pPick t144 t148 (.bool false) H fun t149 H =>
  guardA t149 true (pFa 1 t10 H fun t151 H =>
  ldK .none H t151 fun t152 H =>
  pEql t152 (.int .i64 (.ofNat 0)) H fun t153 H =>
  S7_0 call t149 t153 H) (S7_0 call t149 U H)
noncomputable def S7_2 (call : CallFn) (t10 t140 t142 : AV) (H : AHeap) : R :=
  pPick t140 t142 (.bool false) H fun t143 H =>
  guardA t143 true (pFa 0 t10 H fun t145 H =>
  ldK .none H t145 fun t146 H =>
  pN (aBsl 1 2 [(.int .i64 (.ofNat 0))] [(0, 1, (.int .i64 (.ofNat 5))), (1, 1, (.int .i64 (.ofNat 1)))]) H fun t147 H =>
  pC call 15 [t146, t147] H fun t148 H =>
  S7_1 call t10 t143 t148 H) (S7_1 call t10 t143 U H)
noncomputable def S7_3 (call : CallFn) (t10 t11 t136 t138 : AV) (H : AHeap) : R :=
  pPick t136 t138 (.bool false) H fun t139 H =>
  guardA t139 true (pEql t11 (.int .i64 (.ofNat 5)) H fun t142 H =>
  S7_2 call t10 t139 t142 H) (S7_2 call t10 t139 U H)
noncomputable def S7_4 (call : CallFn) (t10 t11 t12 t16 t120 t132 : AV) (H : AHeap) : R :=
  pPick t120 t132 (.bool false) H fun t133 H =>
  onBool t133 (some ((.bool false), H)) (pEql t12 (.int .i64 (.ofNat 0)) H fun t135 H =>
  guardA t135 true (pEql t16 (.int .i64 (.ofNat 0)) H fun t138 H =>
  S7_3 call t10 t11 t135 t138 H) (S7_3 call t10 t11 t135 U H))
noncomputable def S7_5 (call : CallFn) (t10 t11 t12 t16 t120 t128 t131 : AV) (H : AHeap) : R :=
  guardA t120 true (pPick t128 (.bool true) t131 H fun t132 H =>
  S7_4 call t10 t11 t12 t16 t120 t132 H) (S7_4 call t10 t11 t12 t16 t120 U H)
noncomputable def S7_6 (call : CallFn) (t10 t11 t12 t15 t16 t120 t128 : AV) (H : AHeap) : R :=
  guardA t128 false (pNeq t15 t11 H fun t131 H =>
  S7_5 call t10 t11 t12 t16 t120 t128 t131 H) (S7_5 call t10 t11 t12 t16 t120 t128 U H)
noncomputable def S7_7 (call : CallFn) (t0 t1 t5 t9 t10 t11 t12 : AV) (H : AHeap) : R :=
  ldK (.some 6) H t5 fun t109 H =>
  pN (aBsl 1 1 [(.int .i64 (.ofNat 0))] [(0, 1, (.int .i64 (.ofNat 1)))]) H fun t111 H =>
  pNew [.nilsl, (.int .i64 (.ofNat 0)), (.int .i64 (.ofNat 0)), (.int .i64 (.ofNat 0)), (.int .i64 (.ofNat 0)), (.int .i64 (.ofNat 0)), .nilsl] H fun t14 H =>
  pW (aApp 1 8 H t9 t111) fun t112 H =>
  andR (andB (ckV (aLoad (.some 6) H t5) t109) true) (
  pC call 11 [t109, (.int .i64 (.ofNat 8)), t112, t1] H fun t114 H =>
  pExt t114 0 H fun t115 H =>
  pExt t114 1 H fun t116 H =>
  pExt t114 2 H fun t117 H =>
  stK 7 H t14 t115 fun _ H =>
  pGtr t0 (.int .i64 (.ofNat 0)) H fun t119 H =>
  guardA t119 true (pFa 6 t14 H fun t121 H =>
  ldK .none H t121 fun t122 H =>
  pO (aLen .sl H t122) H fun t123 H =>
  pFa 6 t10 H fun t124 H =>
  ldK .none H t124 fun t125 H =>
  pO (aLen .sl H t125) H fun t126 H =>
  pNeq t123 t126 H fun t127 H =>
  S7_6 call t10 t11 t12 t116 t117 t119 t127 H) (S7_6 call t10 t11 t12 t116 t117 t119 U H))
noncomputable def S7_8 (call : CallFn) (n : Nat) : AV → AV → AV → AV → AV → AV → AV → AV → AHeap → R :=
  Nat.rec (motive := fun _ => AV → AV → AV → AV → AV → AV → AV → AV → AHeap → R) (fun _ _ _ _ _ _ _ _ _ => none) (fun _ q0 t0 t1 t5 t9 t10 t11 t12 t13 H => pLss t13 t0 H fun t102 H =>
  onBool t102 (pN (aBsl 1 1 [(.int .i64 (.ofNat 0))] [(0, 1, (.int .i64 (.ofNat 9)))]) H fun t106 H =>
  pW (aApp 1 8 H t9 t106) fun t107 H =>
  pAdd t13 (.int .i64 (.ofNat 1)) H fun t104 H =>
  q0 t0 t1 t5 t107 t10 t11 t12 t104 H) (S7_7 call t0 t1 t5 t9 t10 t11 t12 H)) n
noncomputable def S7_9 (call : CallFn) (t0 t1 t5 : AV) (H : AHeap) : R :=
  pN (aBsl 1 6 [(.int .i64 (.ofNat 0))] [(0, 1, (.int .i64 (.ofNat 1))), (1, 1, (.int .i64 (.ofNat 1))), (2, 1, (.int .i64 (.ofNat 1))), (3, 1, (.int .i64 (.ofNat 2))), (4, 1, (.int .i64 (.ofNat 1))), (5, 1, (.int .i64 (.ofNat 1)))]) H fun t91 H =>
  ldK (.some 6) H t5 fun t93 H =>
  pC call 11 [t93, (.int .i64 (.ofNat 8)), t91, t1] H fun t96 H =>
  pExt t96 0 H fun t97 H =>
  pExt t96 1 H fun t98 H =>
  pExt t96 2 H fun t99 H =>
  pNew [.nilsl, (.int .i64 (.ofNat 0)), (.int .i64 (.ofNat 0)), (.int .i64 (.ofNat 0)), (.int .i64 (.ofNat 0)), (.int .i64 (.ofNat 0)), .nilsl] H fun t10 H =>
  stK 7 H t10 t97 fun _ H =>
  S7_8 call 1000000 t0 t1 t5 t91 t10 t98 t99 (.int .i64 (.ofNat 0)) H
noncomputable def S7_10 (call : CallFn) (n : Nat) : AV → AV → AV → AV → AHeap → R :=
  Nat.rec (motive := fun _ => AV → AV → AV → AV → AHeap → R) (fun _ _ _ _ _ => none) (fun _ q1 t0 t1 t5 t8 H => pLss t8 (.int .i64 (.ofNat 2)) H fun t76 H =>
  onBool t76 (pFa 4 t5 H fun t79 H =>
  ldK .none H t79 fun t80 H =>
  ldK (.some 6) H t5 fun t82 H =>
  pFa 4 t5 H fun t83 H =>
  ldK .none H t83 fun t84 H =>
  pIa 7 t84 t8 H fun t86 H =>
  ldK (.some 7) H t86 fun t87 H =>
  pC call 18 [t82, t87] H fun t88 H =>
  andR (andB (ckV (aLoad .none H t79) t80) true) (
  pIa 7 t80 t8 H fun t89 H =>
  pFa 6 t89 H fun t90 H =>
  stK 1 H t90 t88 fun _ H =>
  pAdd t8 (.int .i64 (.ofNat 1)) H fun t78 H =>
  q1 t0 t1 t5 t78 H)) (S7_9 call t0 t1 t5 H)) n
noncomputable def S7_11 (call : CallFn) (n : Nat) : AV → AV → AV → AV → AHeap → R :=
  Nat.rec (motive := fun _ => AV → AV → AV → AV → AHeap → R) (fun _ _ _ _ _ => none) (fun _ q2 t0 t1 t5 t7 H => pLss t7 (.int .i64 (.ofNat 2)) H fun t59 H =>
  onBool t59 (pFa 4 t5 H fun t62 H =>
  ldK .none H t62 fun t63 H =>
  pFa 4 t5 H fun t65 H =>
  ldK .none H t65 fun t66 H =>
  pIa 7 t66 t7 H fun t68 H =>
  pFa 5 t68 H fun t69 H =>
  ldK .none H t69 fun t70 H =>
  pO (aLen .sl H t70) H fun t71 H =>
  pN (aMksl 1 8 [(.int .u64 (.ofNat 0))] t71 t71) H fun t72 H =>
  pIa 7 t63 t7 H fun t73 H =>
  pFa 6 t73 H fun t74 H =>
  stK 1 H t74 t72 fun _ H =>
  pAdd t7 (.int .i64 (.ofNat 1)) H fun t61 H =>
  q2 t0 t1 t5 t61 H) (S7_10 call 1000000 t0 t1 t5 (.int .i64 (.ofNat 0)) H)) n
noncomputable def S7_12 (call : CallFn) (t0 t1 t29 t31 : AV) (H : AHeap) : R :=
  pPick t29 (.bool true) t31 H fun t32 H =>
  onBool t32 (some ((.bool true), H)) (pN (aBsl 1 2 [(.int .i64 (.ofNat 0))] [(0, 1, (.int .i64 (.ofNat 0))), (1, 1, (.int .i64 (.ofNat 5)))]) H fun t33 H =>
  pO (someAgg (aFill [(.int .i64 (.ofNat 0)), (.int .i64 (.ofNat 0)), (.int .u64 (.ofNat 0))] [(0, 1, (.int .i64 (.ofNat 3)))])) H fun t34 H =>
  pN (aBsl 3 1 [(.int .i64 (.ofNat 0)), (.int .i64 (.ofNat 0)), (.int .u64 (.ofNat 0))] [(0, 3, t34)]) H fun t35 H =>
  pO (someAgg (aFill [.nilsl, .nilsl, .nilsl, .nilsl, .nilsl, (.int .i64 (.ofNat 0))] [(2, 1, t33), (0, 1, t35)])) H fun t36 H =>
  pNew [.nilsl, .nilsl, .nilsl, .nilsl, .nilsl, (.int .i64 (.ofNat 0))] H fun t5 H =>
  stK 6 H t5 t36 fun _ H =>
  pN (aBsl 1 3 [(.bool false)] [(0, 1, (.bool true)), (1, 1, (.bool false)), (2, 1, (.bool false))]) H fun t37 H =>
  pO (someAgg (aFill [(.int .i64 (.ofNat 0)), (.int .i64 (.ofNat 0)), (.int .i64 (.ofNat 0)), (.int .i64 (.ofNat 0)), (.int .i64 (.ofNat 0))] [(0, 1, (.int .i64 (.ofNat 0))), (1, 1, (.int .i64 (.ofNat 1))), (2, 1, (.int .i64 (.ofNat 0)))])) H fun t39 H =>
  pO (someAgg (aFill [(.int .i64 (.ofNat 0)), (.int .i64 (.ofNat 0)), (.int .i64 (.ofNat 0)), (.int .i64 (.ofNat 0)), (.int .i64 (.ofNat 0))] [(0, 1, (.int .i64 (.ofNat 37))), (1, 1, (.int .i64 (.ofNat 0))), (2, 1, (.int .i64 (.ofNat 0))), (3, 1, (.int .i64 (.ofNat 1)))])) H fun t40 H =>
  pO (someAgg (aFill [(.int .i64 (.ofNat 0)), (.int .i64 (.ofNat 0)), (.int .i64 (.ofNat 0)), (.int .i64 (.ofNat 0)), (.int .i64 (.ofNat 0))] [(0, 1, (.int .i64 (.ofNat 23))), (1, 1, (.int .i64 (.ofNat 1))), (2, 1, (.int .i64 (.ofNat 0)))])) H fun t41 H =>
  pO (someAgg (aFill [(.int .i64 (.ofNat 0)), (.int .i64 (.ofNat 0)), (.int .i64 (.ofNat 0)), (.int .i64 (.ofNat 0)), (.int .i64 (.ofNat 0))] [(0, 1, (.int .i64 (.ofNat 43)))])) H fun t42 H =>
  pO (someAgg (aFill [(.int .i64 (.ofNat 0)), (.int .i64 (.ofNat 0)), (.int .i64 (.ofNat 0)), (.int .i64 (.ofNat 0)), (.int .i64 (.ofNat 0))] [(0, 1, (.int .i64 (.ofNat 39))), (1, 1, (.int .i64 (.ofNat 2))), (2, 1, (.int .i64 (.ofNat 0))), (3, 1, (.int .i64 (.ofNat 1)))])) H fun t43 H =>
  pO (someAgg (aFill [(.int .i64 (.ofNat 0)), (.int .i64 (.ofNat 0)), (.int .i64 (.ofNat 0)), (.int .i64 (.ofNat 0)), (.int .i64 (.ofNat 0))] [(0, 1, (.int .i64 (.ofNat 42))), (1, 1, (.int .i64 (.ofNat 2)))])) H fun t44 H =>
  pO (someAgg (aFill [(.int .i64 (.ofNat 0)), (.int .i64 (.ofNat 0)), (.int .i64 (.ofNat 0)), (.int .i64 (.ofNat 0)), (.int .i64 (.ofNat 0))] [(0, 1, (.int .i64 (.ofNat 42))), (1, 1, (.int .i64 (.ofNat 1)))])) H fun t45 H =>
  pO (someAgg (aFill [(.int .i64 (.ofNat 0)), (.int .i64 (.ofNat 0)), (.int .i64 (.ofNat 0)), (.int .i64 (.ofNat 0)), (.int .i64 (.ofNat 0))] [(0, 1, (.int .i64 (.ofNat 22))), (1, 1, (.int .i64 (.negSucc 0)))])) H fun t46 H =>
  pN (aBsl 5 8 [(.int .i64 (.ofNat 0)), (.int .i64 (.ofNat 0)), (.int .i64 (.ofNat 0)), (.int .i64 (.ofNat 0)), (.int .i64 (.ofNat 0))] [(0, 5, t39), (5, 5, t40), (10, 5, t41), (15, 5, t42), (20, 5, t43), (25, 5, t44), (30, 5, t45), (35, 5, t46)]) H fun t47 H =>
  pO (someAgg (aFill [(.int .i64 (.ofNat 0)), (.int .i64 (.ofNat 0)), (.int .i64 (.ofNat 0)), (.int .i64 (.ofNat 0)), .nilsl, .nilsl, .nilsl] [(2, 1, (.int .i64 (.ofNat 3))), (4, 1, t37), (5, 1, t47)])) H fun t48 H =>
  pO (someAgg (aFill [(.int .i64 (.ofNat 0)), (.int .i64 (.ofNat 0)), (.int .i64 (.ofNat 0)), (.int .i64 (.ofNat 0)), (.int .i64 (.ofNat 0))] [(0, 1, (.int .i64 (.ofNat 43)))])) H fun t50 H =>
  pO (someAgg (aFill [(.int .i64 (.ofNat 0)), (.int .i64 (.ofNat 0)), (.int .i64 (.ofNat 0)), (.int .i64 (.ofNat 0)), (.int .i64 (.ofNat 0))] [(0, 1, (.int .i64 (.ofNat 0))), (1, 1, (.int .i64 (.ofNat 1))), (2, 1, (.int .i64 (.ofNat 1)))])) H fun t51 H =>
  pO (someAgg (aFill [(.int .i64 (.ofNat 0)), (.int .i64 (.ofNat 0)), (.int .i64 (.ofNat 0)), (.int .i64 (.ofNat 0)), (.int .i64 (.ofNat 0))] [(0, 1, (.int .i64 (.ofNat 38))), (1, 1, (.int .i64 (.ofNat 0))), (2, 1, (.int .i64 (.ofNat 1)))])) H fun t52 H =>
  pO (someAgg (aFill [(.int .i64 (.ofNat 0)), (.int .i64 (.ofNat 0)), (.int .i64 (.ofNat 0)), (.int .i64 (.ofNat 0)), (.int .i64 (.ofNat 0))] [(0, 1, (.int .i64 (.ofNat 22))), (1, 1, (.int .i64 (.negSucc 0)))])) H fun t53 H =>
  pN (aBsl 5 4 [(.int .i64 (.ofNat 0)), (.int .i64 (.ofNat 0)), (.int .i64 (.ofNat 0)), (.int .i64 (.ofNat 0)), (.int .i64 (.ofNat 0))] [(0, 5, t50), (5, 5, t51), (10, 5, t52), (15, 5, t53)]) H fun t54 H =>
  pO (someAgg (aFill [(.int .i64 (.ofNat 0)), (.int .i64 (.ofNat 0)), (.int .i64 (.ofNat 0)), (.int .i64 (.ofNat 0)), .nilsl, .nilsl, .nilsl] [(0, 1, (.int .i64 (.ofNat 1))), (2, 1, (.int .i64 (.ofNat 3))), (4, 1, t37), (5, 1, t54)])) H fun t55 H =>
  pN (aBsl 7 2 [(.int .i64 (.ofNat 0)), (.int .i64 (.ofNat 0)), (.int .i64 (.ofNat 0)), (.int .i64 (.ofNat 0)), .nilsl, .nilsl, .nilsl] [(0, 7, t48), (7, 7, t55)]) H fun t56 H =>
  pFa 4 t5 H fun t57 H =>
  stK 1 H t57 t56 fun _ H =>
  S7_11 call 1000000 t0 t1 t5 (.int .i64 (.ofNat 0)) H)
noncomputable def S7_13 (call : CallFn) (t0 t1 t25 t27 : AV) (H : AHeap) : R :=
  pPick t25 (.bool true) t27 H fun t28 H =>
  guardA t28 false (pGtr t1 (.int .i64 (.ofNat 3)) H fun t31 H =>
  S7_12 call t0 t1 t28 t31 H) (S7_12 call t0 t1 t28 U H)
noncomputable def S7_14 (call : CallFn) (t0 t1 t21 t23 : AV) (H : AHeap) : R :=
  pPick t21 (.bool true) t23 H fun t24 H =>
  guardA t24 false (pLss t1 (.int .i64 (.ofNat 0)) H fun t27 H =>
  S7_13 call t0 t1 t24 t27 H) (S7_13 call t0 t1 t24 U H)
noncomputable def S7_15 (call : CallFn) (t0 t1 : AV) (H : AHeap) : R :=
  pC call 8 [] H fun t17 H =>
  pO (aUn .not t17) H fun t18 H =>
  onBool t18 (some ((.bool false), H)) (pLss t0 (.int .i64 (.ofNat 0)) H fun t20 H =>
  guardA t20 false (pGtr t0 (.int .i64 (.ofNat 5)) H fun t23 H =>
  S7_14 call t0 t1 t20 t23 H) (S7_14 call t0 t1 t20 U H))
noncomputable def S7 : Ff := ⟨fun call l H => argA2 (fun t0 t1 => S7_15 call t0 t1 H) l⟩
/- gantline/gantlinelaw18.awake -/
noncomputable def S8_0 (_ : CallFn) (t95 t97 : AV) (H : AHeap) : R :=
  pPick t95 t97 (.bool false) H fun t98 H =>
  some (t98, H)
noncomputable def S8_1 (call : CallFn) (t8 t91 t93 : AV) (H : AHeap) : R :=
  pPick t91 t93 (.bool false) H fun t94 H =>
  guardA t94 true (pC call 21 [t8, (.int .i64 (.ofNat 0))] H fun t97 H =>
  S8_0 call t94 t97 H) (S8_0 call t94 U H)
noncomputable def S8_2 (call : CallFn) (t8 t86 t89 : AV) (H : AHeap) : R :=
  pPick t86 t89 (.bool false) H fun t90 H =>
  guardA t90 true (pO (aEq true .ptr t8 .nilp) H fun t93 H =>
  S8_1 call t8 t90 t93 H) (S8_1 call t8 t90 U H)
noncomputable def S8_3 (call : CallFn) (t6 t8 t81 t84 : AV) (H : AHeap) : R :=
  pPick t81 t84 (.bool false) H fun t85 H =>
  guardA t85 true (pFa 3 t6 H fun t87 H =>
  ldK .none H t87 fun t88 H =>
  pEql t88 (.int .i64 (.ofNat 1)) H fun t89 H =>
  S8_2 call t8 t85 t89 H) (S8_2 call t8 t85 U H)
noncomputable def S8_4 (call : CallFn) (t6 t8 t77 t79 : AV) (H : AHeap) : R :=
  pPick t77 t79 (.bool false) H fun t80 H =>
  guardA t80 true (pFa 1 t6 H fun t82 H =>
  ldK .none H t82 fun t83 H =>
  pEql t83 (.int .i64 (.ofNat 0)) H fun t84 H =>
  S8_3 call t6 t8 t80 t84 H) (S8_3 call t6 t8 t80 U H)
noncomputable def S8_5 (call : CallFn) (t6 t7 t8 t72 t75 : AV) (H : AHeap) : R :=
  pPick t72 t75 (.bool false) H fun t76 H =>
  guardA t76 true (pEql t7 (.int .i64 (.ofNat 0)) H fun t79 H =>
  S8_4 call t6 t8 t76 t79 H) (S8_4 call t6 t8 t76 U H)
noncomputable def S8_6 (call : CallFn) (t3 t6 t7 t8 t67 t70 : AV) (H : AHeap) : R :=
  pPick t67 t70 (.bool false) H fun t71 H =>
  guardA t71 true (pFa 3 t3 H fun t73 H =>
  ldK .none H t73 fun t74 H =>
  pEql t74 (.int .i64 (.ofNat 3)) H fun t75 H =>
  S8_5 call t6 t7 t8 t71 t75 H) (S8_5 call t6 t7 t8 t71 U H)
noncomputable def S8_7 (call : CallFn) (t3 t6 t7 t8 t63 t65 : AV) (H : AHeap) : R :=
  pPick t63 t65 (.bool false) H fun t66 H =>
  guardA t66 true (pFa 1 t3 H fun t68 H =>
  ldK .none H t68 fun t69 H =>
  pEql t69 (.int .i64 (.ofNat 1)) H fun t70 H =>
  S8_6 call t3 t6 t7 t8 t66 t70 H) (S8_6 call t3 t6 t7 t8 t66 U H)
noncomputable def S8_8 (call : CallFn) (t3 t4 t6 t7 t8 t59 t61 : AV) (H : AHeap) : R :=
  pPick t59 t61 (.bool false) H fun t62 H =>
  guardA t62 true (pEql t4 (.int .i64 (.ofNat 2)) H fun t65 H =>
  S8_7 call t3 t6 t7 t8 t62 t65 H) (S8_7 call t3 t6 t7 t8 t62 U H)
noncomputable def S8_9 (call : CallFn) (t3 t4 t5 t6 t7 t8 t53 t57 : AV) (H : AHeap) : R :=
  pPick t53 t57 (.bool false) H fun t58 H =>
  guardA t58 true (pEql t5 (.int .i64 (.ofNat 0)) H fun t61 H =>
  S8_8 call t3 t4 t6 t7 t8 t58 t61 H) (S8_8 call t3 t4 t6 t7 t8 t58 U H)
noncomputable def S8_10 (call : CallFn) (t1 t3 t4 t5 t6 t7 t8 t47 t51 : AV) (H : AHeap) : R :=
  pPick t47 t51 (.bool false) H fun t52 H =>
  guardA t52 true (pFa 6 t1 H fun t54 H =>
  ldK .none H t54 fun t55 H =>
  pO (aLen .sl H t55) H fun t56 H =>
  pEql t56 (.int .i64 (.ofNat 2)) H fun t57 H =>
  S8_9 call t3 t4 t5 t6 t7 t8 t52 t57 H) (S8_9 call t3 t4 t5 t6 t7 t8 t52 U H)
noncomputable def S8_11 (call : CallFn) (t1 t3 t4 t5 t6 t7 t8 t42 t45 : AV) (H : AHeap) : R :=
  pPick t42 t45 (.bool false) H fun t46 H =>
  guardA t46 true (pFa 0 t1 H fun t48 H =>
  ldK .none H t48 fun t49 H =>
  pN (aBsl 1 1 [(.int .i64 (.ofNat 0))] [(0, 1, (.int .i64 (.ofNat 5)))]) H fun t50 H =>
  pC call 15 [t49, t50] H fun t51 H =>
  S8_10 call t1 t3 t4 t5 t6 t7 t8 t46 t51 H) (S8_10 call t1 t3 t4 t5 t6 t7 t8 t46 U H)
noncomputable def S8_12 (call : CallFn) (t1 t3 t4 t5 t6 t7 t8 t37 t40 : AV) (H : AHeap) : R :=
  pPick t37 t40 (.bool false) H fun t41 H =>
  guardA t41 true (pFa 3 t1 H fun t43 H =>
  ldK .none H t43 fun t44 H =>
  pEql t44 (.int .i64 (.ofNat 3)) H fun t45 H =>
  S8_11 call t1 t3 t4 t5 t6 t7 t8 t41 t45 H) (S8_11 call t1 t3 t4 t5 t6 t7 t8 t41 U H)
noncomputable def S8_13 (call : CallFn) (H : AHeap) : R :=
  pC call 12 [] H fun t11 H =>
  pN (aBsl 1 4 [(.int .i64 (.ofNat 0))] [(0, 1, (.int .i64 (.ofNat 0))), (1, 1, (.int .i64 (.ofNat 0))), (2, 1, (.int .i64 (.ofNat 0))), (3, 1, (.int .i64 (.ofNat 0)))]) H fun t12 H =>
  pC call 9 [t11, (.int .i64 (.ofNat 8)), t12] H fun t13 H =>
  pExt t13 0 H fun t14 H =>
  pExt t13 1 H fun t15 H =>
  pNew [.nilsl, (.int .i64 (.ofNat 0)), (.int .i64 (.ofNat 0)), (.int .i64 (.ofNat 0)), (.int .i64 (.ofNat 0)), (.int .i64 (.ofNat 0)), .nilsl] H fun t1 H =>
  stK 7 H t1 t14 fun _ H =>
  pC call 12 [] H fun t17 H =>
  pN (aBsl 1 2 [(.int .i64 (.ofNat 0))] [(0, 1, (.int .i64 (.ofNat 1))), (1, 1, (.int .i64 (.ofNat 1)))]) H fun t18 H =>
  pC call 11 [t17, (.int .i64 (.ofNat 8)), t18, (.int .i64 (.ofNat 1))] H fun t19 H =>
  pExt t19 0 H fun t20 H =>
  pExt t19 1 H fun t21 H =>
  pExt t19 2 H fun t22 H =>
  pNew [.nilsl, (.int .i64 (.ofNat 0)), (.int .i64 (.ofNat 0)), (.int .i64 (.ofNat 0)), (.int .i64 (.ofNat 0)), (.int .i64 (.ofNat 0)), .nilsl] H fun t3 H =>
  stK 7 H t3 t20 fun _ H =>
  pC call 12 [] H fun t24 H =>
  pC call 19 [t24] H fun t25 H =>
  pN (aBsl 1 1 [(.int .i64 (.ofNat 0))] [(0, 1, (.int .i64 (.ofNat 0)))]) H fun t26 H =>
  pC call 10 [t25, (.int .i64 (.ofNat 8)), t26] H fun t27 H =>
  pExt t27 0 H fun t28 H =>
  pExt t27 1 H fun t29 H =>
  pNew [.nilsl, (.int .i64 (.ofNat 0)), (.int .i64 (.ofNat 0)), (.int .i64 (.ofNat 0)), (.int .i64 (.ofNat 0)), (.int .i64 (.ofNat 0)), .nilsl] H fun t6 H =>
  stK 7 H t6 t28 fun _ H =>
  pC call 12 [] H fun t31 H =>
  pC call 20 [t31, (.int .i64 (.ofNat 8))] H fun t32 H =>
  pExt t32 0 H fun t33 H =>
  pExt t32 1 H fun _ H =>
  pEql t15 (.int .i64 (.ofNat 0)) H fun t36 H =>
  guardA t36 true (pFa 1 t1 H fun t38 H =>
  ldK .none H t38 fun t39 H =>
  pEql t39 (.int .i64 (.ofNat 1)) H fun t40 H =>
  S8_12 call t1 t3 t21 t22 t6 t29 t33 t36 t40 H) (S8_12 call t1 t3 t21 t22 t6 t29 t33 t36 U H)
noncomputable def S8 : Ff := ⟨fun call l H => argA0 (S8_13 call H) l⟩
/- gantline/run.Run -/
noncomputable def S9_0 (call : CallFn) (t6 t8 t10 : AV) (H : AHeap) : R :=
  pC call 22 [t8, t10] H fun t38 H =>
  stK 7 H t6 t38 fun _ H =>
  ob (allM (fun o => o) [aLoad (.some 7) H t6, some (.int .i64 (.ofNat 0))]) fun vs => some (resV vs, H)
noncomputable def S9_1 (call : CallFn) (n : Nat) : AV → AV → AV → AV → AV → AV → AHeap → R :=
  Nat.rec (motive := fun _ => AV → AV → AV → AV → AV → AV → AHeap → R) (fun _ _ _ _ _ _ _ => none) (fun _ q0 t6 t8 t10 t23 t24 t25 H => pLss t25 t24 H fun t26 H =>
  onBool t26 (pIa 1 t23 t25 H fun t27 H =>
  ldK .none H t27 fun t28 H =>
  pC call 21 [t8, t28] H fun t31 H =>
  pO (aUn .not t31) H fun t32 H =>
  onBool t32 (S9_0 call t6 t8 t10 H) (pAdd t10 (.int .i64 (.ofNat 1)) H fun t34 H =>
  pAdd t25 (.int .i64 (.ofNat 1)) H fun t35 H =>
  q0 t6 t8 t34 t23 t24 t35 H)) (S9_0 call t6 t8 t10 H)) n
noncomputable def S9_2 (call : CallFn) (t0 t1 t2 : AV) (H : AHeap) : R :=
  pBox t0 H fun t3 H =>
  pNew [.nilsl, (.int .i64 (.ofNat 0)), (.int .i64 (.ofNat 0)), (.int .i64 (.ofNat 0)), (.int .i64 (.ofNat 0)), (.int .i64 (.ofNat 0)), .nilsl] H fun t6 H =>
  ldK (.some 6) H t3 fun t14 H =>
  pC call 20 [t14, t1] H fun t16 H =>
  pExt t16 0 H fun t17 H =>
  pExt t16 1 H fun t18 H =>
  pNeq t18 (.int .i64 (.ofNat 0)) H fun t20 H =>
  onBool t20 (pO (someAgg (aFill [.nilsl, (.int .i64 (.ofNat 0)), (.int .i64 (.ofNat 0)), (.int .i64 (.ofNat 0)), (.int .i64 (.ofNat 0)), (.int .i64 (.ofNat 0)), .nilsl] [])) H fun t21 H =>
  stK 7 H t6 t21 fun _ H =>
  ob (allM (fun o => o) [aLoad (.some 7) H t6, some t18]) fun vs => some (resV vs, H)) (pO (aLen .sl H t2) H fun t24 H =>
  S9_1 call 1000000 t6 t17 (.int .i64 (.ofNat 0)) t2 t24 (.int .i64 (.ofNat 0)) H)
noncomputable def S9 : Ff := ⟨fun call l H => argA3 (fun t0 t1 t2 => S9_2 call t0 t1 t2 H) l⟩
/- gantline/run.Bytes -/
noncomputable def S10_0 (call : CallFn) (t0 t1 t2 : AV) (H : AHeap) : R :=
  pNew [.nilsl, (.int .i64 (.ofNat 0)), (.int .i64 (.ofNat 0)), (.int .i64 (.ofNat 0)), (.int .i64 (.ofNat 0)), (.int .i64 (.ofNat 0)), .nilsl] H fun t6 H =>
  pC call 23 [t0] H fun t12 H =>
  pExt t12 0 H fun t13 H =>
  pExt t12 1 H fun t14 H =>
  pNew [.nilsl, .nilsl, .nilsl, .nilsl, .nilsl, (.int .i64 (.ofNat 0))] H fun t8 H =>
  stK 6 H t8 t13 fun _ H =>
  pNeq t14 (.int .i64 (.ofNat 0)) H fun t16 H =>
  onBool t16 (pO (someAgg (aFill [.nilsl, (.int .i64 (.ofNat 0)), (.int .i64 (.ofNat 0)), (.int .i64 (.ofNat 0)), (.int .i64 (.ofNat 0)), (.int .i64 (.ofNat 0)), .nilsl] [])) H fun t17 H =>
  stK 7 H t6 t17 fun _ H =>
  ob (allM (fun o => o) [aLoad (.some 7) H t6, some t14]) fun vs => some (resV vs, H)) (ldK (.some 6) H t8 fun t19 H =>
  pC call 9 [t19, t1, t2] H fun t22 H =>
  pExt t22 0 H fun t23 H =>
  pExt t22 1 H fun t24 H =>
  stK 7 H t6 t23 fun _ H =>
  ob (allM (fun o => o) [aLoad (.some 7) H t6, some t24]) fun vs => some (resV vs, H))
noncomputable def S10 : Ff := ⟨fun call l H => argA3 (fun t0 t1 t2 => S10_0 call t0 t1 t2 H) l⟩
/- gantline/run.Follow -/
noncomputable def S11_0 (call : CallFn) (t8 t11 t13 t14 : AV) (H : AHeap) : R :=
  pO (aNil t13) H fun t64 H =>
  pFa 2 t64 H fun t65 H =>
  ldK .none H t65 fun t66 H =>
  pC call 22 [t11, t66] H fun t67 H =>
  stK 7 H t8 t67 fun _ H =>
  ob (allM (fun o => o) [aLoad (.some 7) H t8, some t14, some (.int .i64 (.ofNat 0))]) fun vs => some (resV vs, H)
noncomputable def S11_2 (_ : CallFn) (q0 : AV → AV → AV → AV → AV → AV → AV → AHeap → R) (t8 t11 t13 t14 t38 t39 t40 : AV) (H : AHeap) : R :=
  pAdd t40 (.int .i64 (.ofNat 1)) H fun t61 H =>
  q0 t8 t11 t13 t14 t38 t39 t61 H
noncomputable def S11_3 (call : CallFn) (q0 : AV → AV → AV → AV → AV → AV → AV → AHeap → R) (t8 t11 t13 t14 t16 t38 t39 t40 t46 t51 : AV) (H : AHeap) : R :=
  pPick t46 (.bool true) t51 H fun t52 H =>
  onBool t52 (S11_0 call t8 t11 t13 t14 H) (pO (aBin .rem t16 (.int .i64 (.ofNat 1000))) H fun t55 H =>
  pO (aBin .quo t16 (.int .i64 (.ofNat 1000))) H fun t57 H =>
  pC call 25 [t13, t55, t57] H fun t58 H =>
  onBool t58 (pAdd t14 (.int .i64 (.ofNat 1)) H fun t60 H =>
  S11_2 call q0 t8 t11 t13 t60 t38 t39 t40 H) (S11_2 call q0 t8 t11 t13 t14 t38 t39 t40 H))
noncomputable def S11_1 (call : CallFn) (n : Nat) : AV → AV → AV → AV → AV → AV → AV → AHeap → R :=
  Nat.rec (motive := fun _ => AV → AV → AV → AV → AV → AV → AV → AHeap → R) (fun _ _ _ _ _ _ _ _ => none) (fun _ q0 t8 t11 t13 t14 t38 t39 t40 H => pLss t40 t39 H fun t41 H =>
  onBool t41 (pIa 1 t38 t40 H fun t42 H =>
  ldK .none H t42 fun t43 H =>
  pLss t43 (.int .i64 (.ofNat 0)) H fun t45 H =>
  guardA t45 false (pO (aBin .rem t43 (.int .i64 (.ofNat 1000))) H fun t49 H =>
  pC call 24 [t13, t49] H fun t50 H =>
  pO (aUn .not t50) H fun t51 H =>
  S11_3 call q0 t8 t11 t13 t14 t43 t38 t39 t40 t45 t51 H) (S11_3 call q0 t8 t11 t13 t14 t43 t38 t39 t40 t45 U H)) (S11_0 call t8 t11 t13 t14 H)) n
noncomputable def S11_4 (call : CallFn) (t1 t2 t3 t4 t8 t19 t21 : AV) (H : AHeap) : R :=
  pPick t19 (.bool true) t21 H fun t22 H =>
  onBool t22 (pO (someAgg (aFill [.nilsl, (.int .i64 (.ofNat 0)), (.int .i64 (.ofNat 0)), (.int .i64 (.ofNat 0)), (.int .i64 (.ofNat 0)), (.int .i64 (.ofNat 0)), .nilsl] [])) H fun t23 H =>
  stK 7 H t8 t23 fun _ H =>
  ob (allM (fun o => o) [aLoad (.some 7) H t8, some (.int .i64 (.ofNat 0)), some (.int .i64 (.ofNat 1))]) fun vs => some (resV vs, H)) (ldK (.some 6) H t4 fun t25 H =>
  pC call 20 [t25, t1] H fun t27 H =>
  pExt t27 0 H fun t28 H =>
  pExt t27 1 H fun t29 H =>
  pNeq t29 (.int .i64 (.ofNat 0)) H fun t31 H =>
  onBool t31 (pO (someAgg (aFill [.nilsl, (.int .i64 (.ofNat 0)), (.int .i64 (.ofNat 0)), (.int .i64 (.ofNat 0)), (.int .i64 (.ofNat 0)), (.int .i64 (.ofNat 0)), .nilsl] [])) H fun t32 H =>
  stK 7 H t8 t32 fun _ H =>
  ob (allM (fun o => o) [aLoad (.some 7) H t8, some (.int .i64 (.ofNat 0)), some t29]) fun vs => some (resV vs, H)) (pO (someAgg (aFill [.nilp, (.int .i64 (.ofNat 0)), (.int .i64 (.ofNat 0))] [(0, 1, t28), (1, 1, t3)])) H fun t36 H =>
  pBox t36 H fun t37 H =>
  pO (aLen .sl H t2) H fun t39 H =>
  S11_1 call 1000000 t8 t28 t37 (.int .i64 (.ofNat 0)) t2 t39 (.int .i64 (.ofNat 0)) H))
noncomputable def S11_5 (call : CallFn) (t0 t1 t2 t3 : AV) (H : AHeap) : R :=
  pBox t0 H fun t4 H =>
  pNew [.nilsl, (.int .i64 (.ofNat 0)), (.int .i64 (.ofNat 0)), (.int .i64 (.ofNat 0)), (.int .i64 (.ofNat 0)), (.int .i64 (.ofNat 0)), .nilsl] H fun t8 H =>
  pLss t3 (.int .i64 (.ofNat 0)) H fun t18 H =>
  guardA t18 false (pGtr t3 (.int .i64 (.ofNat 9)) H fun t21 H =>
  S11_4 call t1 t2 t3 t4 t8 t18 t21 H) (S11_4 call t1 t2 t3 t4 t8 t18 U H)
noncomputable def S11 : Ff := ⟨fun call l H => argA4 (fun t0 t1 t2 t3 => S11_5 call t0 t1 t2 t3 H) l⟩
/- gantline/gantlinelaw18.prints -/
noncomputable def S12_0 (_ : CallFn) (H : AHeap) : R :=
  pNew [.nilsl, .nilsl, .nilsl, .nilsl, .nilsl, (.int .i64 (.ofNat 0))] H fun t0 H =>
  pN (aBsl 1 1 [(.int .i64 (.ofNat 0))] [(0, 1, (.int .i64 (.ofNat 5)))]) H fun t1 H =>
  pN (aBsl 1 1 [(.bool false)] [(0, 1, (.bool false))]) H fun t2 H =>
  pO (someAgg (aFill [(.int .i64 (.ofNat 0)), (.int .i64 (.ofNat 0)), (.int .i64 (.ofNat 0)), (.int .i64 (.ofNat 0)), (.int .i64 (.ofNat 0))] [(0, 1, (.int .i64 (.ofNat 0)))])) H fun t3 H =>
  pO (someAgg (aFill [(.int .i64 (.ofNat 0)), (.int .i64 (.ofNat 0)), (.int .i64 (.ofNat 0)), (.int .i64 (.ofNat 0)), (.int .i64 (.ofNat 0))] [(0, 1, (.int .i64 (.ofNat 42)))])) H fun t4 H =>
  pO (someAgg (aFill [(.int .i64 (.ofNat 0)), (.int .i64 (.ofNat 0)), (.int .i64 (.ofNat 0)), (.int .i64 (.ofNat 0)), (.int .i64 (.ofNat 0))] [(0, 1, (.int .i64 (.ofNat 22))), (1, 1, (.int .i64 (.negSucc 0)))])) H fun t5 H =>
  pN (aBsl 5 3 [(.int .i64 (.ofNat 0)), (.int .i64 (.ofNat 0)), (.int .i64 (.ofNat 0)), (.int .i64 (.ofNat 0)), (.int .i64 (.ofNat 0))] [(0, 5, t3), (5, 5, t4), (10, 5, t5)]) H fun t6 H =>
  pN (aBsl 1 3 [(.int .u64 (.ofNat 0))] [(0, 1, (.int .u64 (.ofNat 0))), (1, 1, (.int .u64 (.ofNat 0))), (2, 1, (.int .u64 (.ofNat 0)))]) H fun t7 H =>
  pO (someAgg (aFill [(.int .i64 (.ofNat 0)), (.int .i64 (.ofNat 0)), (.int .i64 (.ofNat 0)), (.int .i64 (.ofNat 0)), .nilsl, .nilsl, .nilsl] [(2, 1, (.int .i64 (.ofNat 1))), (4, 1, t2), (5, 1, t6), (6, 1, t7)])) H fun t8 H =>
  pN (aBsl 7 1 [(.int .i64 (.ofNat 0)), (.int .i64 (.ofNat 0)), (.int .i64 (.ofNat 0)), (.int .i64 (.ofNat 0)), .nilsl, .nilsl, .nilsl] [(0, 7, t8)]) H fun t9 H =>
  pO (someAgg (aFill [.nilsl, .nilsl, .nilsl, .nilsl, .nilsl, (.int .i64 (.ofNat 0))] [(2, 1, t1), (4, 1, t9)])) H fun t10 H =>
  stK 6 H t0 t10 fun _ H =>
  ob (allM (fun o => o) [aLoad (.some 6) H t0]) fun vs => some (resV vs, H)
noncomputable def S12 : Ff := ⟨fun call l H => argA0 (S12_0 call H) l⟩
/- gantline/gantlineref17.Nums -/
noncomputable def S15_0 (_ : CallFn) (n : Nat) : AV → AV → AV → AHeap → R :=
  Nat.rec (motive := fun _ => AV → AV → AV → AHeap → R) (fun _ _ _ _ => none) (fun _ q0 t0 t1 t5 H => pO (aLen .sl H t0) H fun t13 H =>
  pLss t5 t13 H fun t14 H =>
  onBool t14 (pIa 1 t0 t5 H fun t19 H =>
  ldK .none H t19 fun t20 H =>
  pIa 1 t1 t5 H fun t23 H =>
  ldK .none H t23 fun t24 H =>
  pNeq t20 t24 H fun t25 H =>
  onBool t25 (some ((.bool false), H)) (pAdd t5 (.int .i64 (.ofNat 1)) H fun t16 H =>
  q0 t0 t1 t16 H)) (some ((.bool true), H))) n
noncomputable def S15_1 (call : CallFn) (t0 t1 : AV) (H : AHeap) : R :=
  pO (aLen .sl H t0) H fun t7 H =>
  pO (aLen .sl H t1) H fun t9 H =>
  pNeq t7 t9 H fun t10 H =>
  onBool t10 (some ((.bool false), H)) (S15_0 call 1000000 t0 t1 (.int .i64 (.ofNat 0)) H)
noncomputable def S15 : Ff := ⟨fun call l H => argA2 (fun t0 t1 => S15_1 call t0 t1 H) l⟩
/- gantline/gantlinelaw18.two -/
noncomputable def S17_0 (call : CallFn) (H : AHeap) : R :=
  pNew [.nilsl, .nilsl, .nilsl, .nilsl, .nilsl, (.int .i64 (.ofNat 0))] H fun t0 H =>
  pN (aBsl 1 2 [(.int .i64 (.ofNat 0))] [(0, 1, (.int .i64 (.ofNat 1))), (1, 1, (.int .i64 (.ofNat 2)))]) H fun t3 H =>
  pO (someAgg (aFill [(.int .i64 (.ofNat 0)), (.int .i64 (.ofNat 0)), (.int .u64 (.ofNat 0))] [(0, 1, (.int .i64 (.ofNat 3)))])) H fun t4 H =>
  pN (aBsl 3 1 [(.int .i64 (.ofNat 0)), (.int .i64 (.ofNat 0)), (.int .u64 (.ofNat 0))] [(0, 3, t4)]) H fun t5 H =>
  pO (someAgg (aFill [(.int .i64 (.ofNat 0)), (.int .i64 (.ofNat 0)), (.int .i64 (.ofNat 0)), (.int .i64 (.ofNat 0))] [(0, 1, (.int .i64 (.ofNat 0))), (1, 1, (.int .i64 (.ofNat 1))), (2, 1, (.int .i64 (.ofNat 0))), (3, 1, (.int .i64 (.ofNat 7)))])) H fun t6 H =>
  pO (someAgg (aFill [(.int .i64 (.ofNat 0)), (.int .i64 (.ofNat 0)), (.int .i64 (.ofNat 0)), (.int .i64 (.ofNat 0))] [(0, 1, (.int .i64 (.ofNat 0))), (1, 1, (.int .i64 (.ofNat 2))), (2, 1, (.int .i64 (.ofNat 0))), (3, 1, (.int .i64 (.ofNat 7)))])) H fun t7 H =>
  pN (aBsl 4 2 [(.int .i64 (.ofNat 0)), (.int .i64 (.ofNat 0)), (.int .i64 (.ofNat 0)), (.int .i64 (.ofNat 0))] [(0, 4, t6), (4, 4, t7)]) H fun t8 H =>
  pO (someAgg (aFill [.nilsl, .nilsl, .nilsl, .nilsl, .nilsl, (.int .i64 (.ofNat 0))] [(2, 1, t3), (0, 1, t5), (3, 1, t8)])) H fun t9 H =>
  pNew [.nilsl, .nilsl, .nilsl, .nilsl, .nilsl, (.int .i64 (.ofNat 0))] H fun t1 H =>
  stK 6 H t1 t9 fun _ H =>
  pN (aBsl 1 3 [(.bool false)] [(0, 1, (.bool false)), (1, 1, (.bool true)), (2, 1, (.bool true))]) H fun t10 H =>
  pO (someAgg (aFill [(.int .i64 (.ofNat 0)), (.int .i64 (.ofNat 0)), (.int .i64 (.ofNat 0)), (.int .i64 (.ofNat 0)), (.int .i64 (.ofNat 0))] [(0, 1, (.int .i64 (.ofNat 0))), (1, 1, (.int .i64 (.ofNat 0))), (2, 1, (.int .i64 (.ofNat 0)))])) H fun t11 H =>
  pO (someAgg (aFill [(.int .i64 (.ofNat 0)), (.int .i64 (.ofNat 0)), (.int .i64 (.ofNat 0)), (.int .i64 (.ofNat 0)), (.int .i64 (.ofNat 0))] [(0, 1, (.int .i64 (.ofNat 37))), (1, 1, (.int .i64 (.ofNat 1))), (2, 1, (.int .i64 (.ofNat 0))), (3, 1, (.int .i64 (.ofNat 0)))])) H fun t12 H =>
  pO (someAgg (aFill [(.int .i64 (.ofNat 0)), (.int .i64 (.ofNat 0)), (.int .i64 (.ofNat 0)), (.int .i64 (.ofNat 0)), (.int .i64 (.ofNat 0))] [(0, 1, (.int .i64 (.ofNat 37))), (1, 1, (.int .i64 (.ofNat 2))), (2, 1, (.int .i64 (.ofNat 0))), (3, 1, (.int .i64 (.ofNat 0)))])) H fun t13 H =>
  pO (someAgg (aFill [(.int .i64 (.ofNat 0)), (.int .i64 (.ofNat 0)), (.int .i64 (.ofNat 0)), (.int .i64 (.ofNat 0)), (.int .i64 (.ofNat 0))] [(0, 1, (.int .i64 (.ofNat 38))), (1, 1, (.int .i64 (.ofNat 1))), (2, 1, (.int .i64 (.ofNat 0)))])) H fun t14 H =>
  pO (someAgg (aFill [(.int .i64 (.ofNat 0)), (.int .i64 (.ofNat 0)), (.int .i64 (.ofNat 0)), (.int .i64 (.ofNat 0)), (.int .i64 (.ofNat 0))] [(0, 1, (.int .i64 (.ofNat 0))), (1, 1, (.int .i64 (.ofNat 0))), (2, 1, (.int .i64 (.ofNat 1)))])) H fun t15 H =>
  pO (someAgg (aFill [(.int .i64 (.ofNat 0)), (.int .i64 (.ofNat 0)), (.int .i64 (.ofNat 0)), (.int .i64 (.ofNat 0)), (.int .i64 (.ofNat 0))] [(0, 1, (.int .i64 (.ofNat 38))), (1, 1, (.int .i64 (.ofNat 2))), (2, 1, (.int .i64 (.ofNat 0)))])) H fun t16 H =>
  pO (someAgg (aFill [(.int .i64 (.ofNat 0)), (.int .i64 (.ofNat 0)), (.int .i64 (.ofNat 0)), (.int .i64 (.ofNat 0)), (.int .i64 (.ofNat 0))] [(0, 1, (.int .i64 (.ofNat 41))), (1, 1, (.int .i64 (.ofNat 0))), (2, 1, (.int .i64 (.ofNat 2)))])) H fun t17 H =>
  pO (someAgg (aFill [(.int .i64 (.ofNat 0)), (.int .i64 (.ofNat 0)), (.int .i64 (.ofNat 0)), (.int .i64 (.ofNat 0)), (.int .i64 (.ofNat 0))] [(0, 1, (.int .i64 (.ofNat 42))), (1, 1, (.int .i64 (.ofNat 0)))])) H fun t18 H =>
  pO (someAgg (aFill [(.int .i64 (.ofNat 0)), (.int .i64 (.ofNat 0)), (.int .i64 (.ofNat 0)), (.int .i64 (.ofNat 0)), (.int .i64 (.ofNat 0))] [(0, 1, (.int .i64 (.ofNat 22))), (1, 1, (.int .i64 (.negSucc 0)))])) H fun t19 H =>
  pN (aBsl 5 9 [(.int .i64 (.ofNat 0)), (.int .i64 (.ofNat 0)), (.int .i64 (.ofNat 0)), (.int .i64 (.ofNat 0)), (.int .i64 (.ofNat 0))] [(0, 5, t11), (5, 5, t12), (10, 5, t13), (15, 5, t14), (20, 5, t15), (25, 5, t16), (30, 5, t17), (35, 5, t18), (40, 5, t19)]) H fun t20 H =>
  pO (someAgg (aFill [(.int .i64 (.ofNat 0)), (.int .i64 (.ofNat 0)), (.int .i64 (.ofNat 0)), (.int .i64 (.ofNat 0)), .nilsl, .nilsl, .nilsl] [(2, 1, (.int .i64 (.ofNat 3))), (4, 1, t10), (5, 1, t20)])) H fun t21 H =>
  pNew [(.int .i64 (.ofNat 0)), (.int .i64 (.ofNat 0)), (.int .i64 (.ofNat 0)), (.int .i64 (.ofNat 0)), .nilsl, .nilsl, .nilsl] H fun t2 H =>
  stK 7 H t2 t21 fun _ H =>
  pFa 5 t2 H fun t22 H =>
  ldK .none H t22 fun t23 H =>
  pO (aLen .sl H t23) H fun t24 H =>
  pN (aMksl 1 8 [(.int .u64 (.ofNat 0))] t24 t24) H fun t25 H =>
  pFa 6 t2 H fun t26 H =>
  stK 1 H t26 t25 fun _ H =>
  ldK (.some 7) H t2 fun t27 H =>
  pN (aBsl 7 1 [(.int .i64 (.ofNat 0)), (.int .i64 (.ofNat 0)), (.int .i64 (.ofNat 0)), (.int .i64 (.ofNat 0)), .nilsl, .nilsl, .nilsl] [(0, 7, t27)]) H fun t28 H =>
  pFa 4 t1 H fun t29 H =>
  stK 1 H t29 t28 fun _ H =>
  pFa 4 t1 H fun t30 H =>
  ldK .none H t30 fun t31 H =>
  ldK (.some 6) H t1 fun t32 H =>
  ldK (.some 7) H t2 fun t33 H =>
  pC call 18 [t32, t33] H fun t34 H =>
  andR (andB (ckV (aLoad .none H t30) t31) true) (
  pIa 7 t31 (.int .i64 (.ofNat 0)) H fun t35 H =>
  pFa 6 t35 H fun t36 H =>
  stK 1 H t36 t34 fun _ H =>
  ldK (.some 6) H t1 fun t37 H =>
  stK 6 H t0 t37 fun _ H =>
  ob (allM (fun o => o) [aLoad (.some 6) H t0]) fun vs => some (resV vs, H))
noncomputable def S17 : Ff := ⟨fun call l H => argA0 (S17_0 call H) l⟩
/- gantline/live.Maps -/
noncomputable def S18_0 (_ : CallFn) (n : Nat) : AV → AV → AV → AV → AHeap → R :=
  Nat.rec (motive := fun _ => AV → AV → AV → AV → AHeap → R) (fun _ _ _ _ _ => none) (fun _ q0 t5 t8 t34 t35 H => pLss t35 t34 H fun t36 H =>
  onBool t36 (pIa 1 t8 t35 H fun t40 H =>
  ldK .none H t40 fun t41 H =>
  pAnd t41 t5 H fun t43 H =>
  pIa 1 t8 t35 H fun t44 H =>
  stK 1 H t44 t43 fun _ H =>
  pAdd t35 (.int .i64 (.ofNat 1)) H fun t45 H =>
  q0 t5 t8 t34 t45 H) (some (t8, H))) n
noncomputable def S18_1 (call : CallFn) (t2 t3 t5 : AV) (H : AHeap) : R :=
  ldK (.some 6) H t2 fun t30 H =>
  ldK (.some 7) H t3 fun t31 H =>
  pC call 26 [t30, t31] H fun t32 H =>
  pO (aLen .sl H t32) H fun t34 H =>
  S18_0 call 1000000 t5 t32 t34 (.int .i64 (.ofNat 0)) H
noncomputable def S18_3 (_ : CallFn) (q1 : AV → AV → AV → AV → AV → AV → AHeap → R) (t2 t3 t5 t16 t17 t18 : AV) (H : AHeap) : R :=
  pAdd t18 (.int .i64 (.ofNat 1)) H fun t29 H =>
  q1 t2 t3 t5 t16 t17 t29 H
noncomputable def S18_2 (call : CallFn) (n : Nat) : AV → AV → AV → AV → AV → AV → AHeap → R :=
  Nat.rec (motive := fun _ => AV → AV → AV → AV → AV → AV → AHeap → R) (fun _ _ _ _ _ _ _ => none) (fun _ q1 t2 t3 t5 t16 t17 t18 H => pLss t18 t17 H fun t19 H =>
  onBool t19 (pIa 1 t16 t18 H fun t21 H =>
  ldK .none H t21 fun t22 H =>
  onBool t22 (pConv .u64 t18 H fun t26 H =>
  pO (aBin .shl (.int .u64 (.ofNat 1)) t26) H fun t27 H =>
  pOr t5 t27 H fun t28 H =>
  S18_3 call q1 t2 t3 t28 t16 t17 t18 H) (S18_3 call q1 t2 t3 t5 t16 t17 t18 H)) (S18_1 call t2 t3 t5 H)) n
noncomputable def S18_4 (call : CallFn) (t0 t1 : AV) (H : AHeap) : R :=
  pBox t0 H fun t2 H =>
  pBox t1 H fun t3 H =>
  pFa 4 t3 H fun t10 H =>
  ldK .none H t10 fun t11 H =>
  pFa 4 t3 H fun t12 H =>
  ldK .none H t12 fun t13 H =>
  pO (aLen .sl H t13) H fun t14 H =>
  pO (aMinMax false t14 (.int .i64 (.ofNat 64))) H fun t15 H =>
  pO (aSlice 1 H t11 .none (.some t15) .none) H fun t16 H =>
  pO (aLen .sl H t16) H fun t17 H =>
  S18_2 call 1000000 t2 t3 (.int .u64 (.ofNat 0)) t16 t17 (.int .i64 (.ofNat 0)) H
noncomputable def S18 : Ff := ⟨fun call l H => argA2 (fun t0 t1 => S18_4 call t0 t1 H) l⟩
/- gantline/code.Encode -/
noncomputable def S19_0 (call : CallFn) (t1 t3 : AV) (H : AHeap) : R :=
  pFa 5 t1 H fun t105 H =>
  ldK .none H t105 fun t106 H =>
  pN (aBsl 1 1 [(.int .i64 (.ofNat 0))] [(0, 1, t106)]) H fun t107 H =>
  pC call 29 [t3, t107] H fun _ H =>
  pO (aNil t3) H fun t110 H =>
  pFa 0 t110 H fun t111 H =>
  ldK .none H t111 fun t112 H =>
  some (t112, H)
noncomputable def S19_1 (call : CallFn) (n : Nat) : AV → AV → AV → AV → AV → AHeap → R :=
  Nat.rec (motive := fun _ => AV → AV → AV → AV → AV → AHeap → R) (fun _ _ _ _ _ _ => none) (fun _ q0 t1 t3 t94 t95 t96 H => pLss t96 t95 H fun t97 H =>
  onBool t97 (pIa 7 t94 t96 H fun t98 H =>
  ldK (.some 7) H t98 fun t99 H =>
  pNew [(.int .i64 (.ofNat 0)), (.int .i64 (.ofNat 0)), (.int .i64 (.ofNat 0)), (.int .i64 (.ofNat 0)), .nilsl, .nilsl, .nilsl] H fun t11 H =>
  stK 7 H t11 t99 fun _ H =>
  ldK (.some 7) H t11 fun t101 H =>
  pC call 32 [t3, t101] H fun _ H =>
  pAdd t96 (.int .i64 (.ofNat 1)) H fun t103 H =>
  q0 t1 t3 t94 t95 t103 H) (S19_0 call t1 t3 H)) n
noncomputable def S19_2 (call : CallFn) (t1 t3 : AV) (H : AHeap) : R :=
  pFa 4 t1 H fun t88 H =>
  ldK .none H t88 fun t89 H =>
  pO (aLen .sl H t89) H fun t90 H =>
  pConv .u64 t90 H fun t91 H =>
  pC call 28 [t3, t91] H fun _ H =>
  pFa 4 t1 H fun t93 H =>
  ldK .none H t93 fun t94 H =>
  pO (aLen .sl H t94) H fun t95 H =>
  S19_1 call 1000000 t1 t3 t94 t95 (.int .i64 (.ofNat 0)) H
noncomputable def S19_3 (call : CallFn) (n : Nat) : AV → AV → AV → AV → AV → AHeap → R :=
  Nat.rec (motive := fun _ => AV → AV → AV → AV → AV → AHeap → R) (fun _ _ _ _ _ _ => none) (fun _ q1 t1 t3 t69 t70 t71 H => pLss t71 t70 H fun t72 H =>
  onBool t72 (pIa 4 t69 t71 H fun t73 H =>
  ldK (.some 4) H t73 fun t74 H =>
  pNew [(.int .i64 (.ofNat 0)), (.int .i64 (.ofNat 0)), (.int .i64 (.ofNat 0)), (.int .i64 (.ofNat 0))] H fun t9 H =>
  stK 4 H t9 t74 fun _ H =>
  pFa 0 t9 H fun t76 H =>
  ldK .none H t76 fun t77 H =>
  pFa 1 t9 H fun t78 H =>
  ldK .none H t78 fun t79 H =>
  pFa 2 t9 H fun t80 H =>
  ldK .none H t80 fun t81 H =>
  pFa 3 t9 H fun t82 H =>
  ldK .none H t82 fun t83 H =>
  pN (aBsl 1 4 [(.int .i64 (.ofNat 0))] [(0, 1, t77), (1, 1, t79), (2, 1, t81), (3, 1, t83)]) H fun t84 H =>
  pC call 29 [t3, t84] H fun _ H =>
  pAdd t71 (.int .i64 (.ofNat 1)) H fun t86 H =>
  q1 t1 t3 t69 t70 t86 H) (S19_2 call t1 t3 H)) n
noncomputable def S19_4 (call : CallFn) (t1 t3 : AV) (H : AHeap) : R :=
  pFa 3 t1 H fun t63 H =>
  ldK .none H t63 fun t64 H =>
  pO (aLen .sl H t64) H fun t65 H =>
  pConv .u64 t65 H fun t66 H =>
  pC call 28 [t3, t66] H fun _ H =>
  pFa 3 t1 H fun t68 H =>
  ldK .none H t68 fun t69 H =>
  pO (aLen .sl H t69) H fun t70 H =>
  S19_3 call 1000000 t1 t3 t69 t70 (.int .i64 (.ofNat 0)) H
noncomputable def S19_5 (call : CallFn) (n : Nat) : AV → AV → AV → AV → AV → AHeap → R :=
  Nat.rec (motive := fun _ => AV → AV → AV → AV → AV → AHeap → R) (fun _ _ _ _ _ _ => none) (fun _ q2 t1 t3 t51 t52 t53 H => pLss t53 t52 H fun t54 H =>
  onBool t54 (pIa 1 t51 t53 H fun t55 H =>
  ldK .none H t55 fun t56 H =>
  pC call 31 [t56] H fun t59 H =>
  pC call 28 [t3, t59] H fun _ H =>
  pAdd t53 (.int .i64 (.ofNat 1)) H fun t61 H =>
  q2 t1 t3 t51 t52 t61 H) (S19_4 call t1 t3 H)) n
noncomputable def S19_6 (call : CallFn) (t1 t3 : AV) (H : AHeap) : R :=
  pFa 1 t1 H fun t41 H =>
  ldK .none H t41 fun t42 H =>
  pC call 30 [t3, t42] H fun _ H =>
  pFa 2 t1 H fun t45 H =>
  ldK .none H t45 fun t46 H =>
  pO (aLen .sl H t46) H fun t47 H =>
  pConv .u64 t47 H fun t48 H =>
  pC call 28 [t3, t48] H fun _ H =>
  pFa 2 t1 H fun t50 H =>
  ldK .none H t50 fun t51 H =>
  pO (aLen .sl H t51) H fun t52 H =>
  S19_5 call 1000000 t1 t3 t51 t52 (.int .i64 (.ofNat 0)) H
noncomputable def S19_7 (call : CallFn) (n : Nat) : AV → AV → AV → AV → AV → AHeap → R :=
  Nat.rec (motive := fun _ => AV → AV → AV → AV → AV → AHeap → R) (fun _ _ _ _ _ _ => none) (fun _ q3 t1 t3 t22 t23 t24 H => pLss t24 t23 H fun t25 H =>
  onBool t25 (pIa 3 t22 t24 H fun t26 H =>
  ldK (.some 3) H t26 fun t27 H =>
  pNew [(.int .i64 (.ofNat 0)), (.int .i64 (.ofNat 0)), (.int .u64 (.ofNat 0))] H fun t5 H =>
  stK 3 H t5 t27 fun _ H =>
  pFa 0 t5 H fun t29 H =>
  ldK .none H t29 fun t30 H =>
  pFa 1 t5 H fun t31 H =>
  ldK .none H t31 fun t32 H =>
  pN (aBsl 1 2 [(.int .i64 (.ofNat 0))] [(0, 1, t30), (1, 1, t32)]) H fun t33 H =>
  pC call 29 [t3, t33] H fun _ H =>
  pFa 2 t5 H fun t36 H =>
  ldK .none H t36 fun t37 H =>
  pC call 28 [t3, t37] H fun _ H =>
  pAdd t24 (.int .i64 (.ofNat 1)) H fun t39 H =>
  q3 t1 t3 t22 t23 t39 H) (S19_6 call t1 t3 H)) n
noncomputable def S19_8 (call : CallFn) (t0 : AV) (H : AHeap) : R :=
  pBox t0 H fun t1 H =>
  pC call 27 [] H fun t12 H =>
  pO (someAgg (aFill [.nilsl] [(0, 1, t12)])) H fun t13 H =>
  pBox t13 H fun t14 H =>
  pFa 0 t1 H fun t16 H =>
  ldK .none H t16 fun t17 H =>
  pO (aLen .sl H t17) H fun t18 H =>
  pConv .u64 t18 H fun t19 H =>
  pC call 28 [t14, t19] H fun _ H =>
  pFa 0 t1 H fun t21 H =>
  ldK .none H t21 fun t22 H =>
  pO (aLen .sl H t22) H fun t23 H =>
  S19_7 call 1000000 t1 t14 t22 t23 (.int .i64 (.ofNat 0)) H
noncomputable def S19 : Ff := ⟨fun call l H => argA1 (fun t0 => S19_8 call t0 H) l⟩
/- gantline/vm.New -/
noncomputable def S20_0 (call : CallFn) (t0 t1 : AV) (H : AHeap) : R :=
  pBox t0 H fun t2 H =>
  ldK (.some 6) H t2 fun t9 H =>
  pC call 33 [t9] H fun t10 H =>
  pO (aUn .not t10) H fun t11 H =>
  onBool t11 (some (.tup [.nilp, (.int .i64 (.ofNat 8))], H)) (pFa 0 t2 H fun t14 H =>
  ldK .none H t14 fun t15 H =>
  pC call 34 [t1, t15] H fun t16 H =>
  pExt t16 0 H fun t17 H =>
  pExt t16 1 H fun t18 H =>
  pNeq t18 (.int .i64 (.ofNat 0)) H fun t20 H =>
  onBool t20 (some (.tup [.nilp, t18], H)) (ldK (.some 6) H t2 fun t22 H =>
  pC call 35 [t22] H fun t23 H =>
  stK 6 H t2 t23 fun _ H =>
  ldK (.some 6) H t2 fun t24 H =>
  ldK (.some 6) H t2 fun t26 H =>
  pFa 1 t2 H fun t28 H =>
  ldK .none H t28 fun t29 H =>
  pO (aLen .sl H t29) H fun t30 H =>
  pN (aMksl 1 8 [(.int .i64 (.ofNat 0))] t30 t30) H fun t31 H =>
  pC call 36 [t26] H fun t27 H =>
  andR (andB (ckV (aLoad (.some 6) H t2) t24) (andB (ckV (aLoad .none H t28) t29) (andB (ckV (aLen .sl H t29) t30) true))) (
  pO (someAgg (aFill [.nilsl, .nilsl, .nilsl, .nilsl, .nilsl, (.int .i64 (.ofNat 0)), .nilp, .nilp, .nilsl, .nilsl, .nilsl, (.int .i64 (.ofNat 0)), (.int .i64 (.ofNat 0))] [(0, 6, t24), (6, 1, t17), (7, 1, t27), (8, 1, t31)])) H fun t32 H =>
  pBox t32 H fun t33 H =>
  pO (aNil t33) H fun t35 H =>
  pFa 7 t35 H fun t36 H =>
  ldK .none H t36 fun t37 H =>
  pFa 5 t2 H fun t38 H =>
  ldK .none H t38 fun t39 H =>
  pC call 37 [t37, t39, .nilsl] H fun _ H =>
  pC call 38 [t33] H fun _ H =>
  some (.tup [t33, (.int .i64 (.ofNat 0))], H))))
noncomputable def S20 : Ff := ⟨fun call l H => argA2 (fun t0 t1 => S20_0 call t0 t1 H) l⟩
/- gantline/run.One -/
noncomputable def S21_0 (call : CallFn) (t0 t1 : AV) (H : AHeap) : R :=
  pC call 40 [t0] H fun t25 H =>
  pO (aLen .sl H t25) H fun t28 H =>
  pAdd t28 (.int .i64 (.ofNat 1)) H fun t29 H =>
  pO (aBin .rem t1 t29) H fun t30 H =>
  pO (aLen .sl H t25) H fun t33 H =>
  pEql t30 t33 H fun t34 H =>
  onBool t34 (pC call 41 [t0] H fun t36 H =>
  some (t36, H)) (pIa 1 t25 t30 H fun t40 H =>
  ldK .none H t40 fun t41 H =>
  pO (aLen .sl H t25) H fun t44 H =>
  pAdd t44 (.int .i64 (.ofNat 1)) H fun t45 H =>
  pO (aBin .quo t1 t45) H fun t46 H =>
  pIa 1 t25 t30 H fun t50 H =>
  ldK .none H t50 fun t51 H =>
  pC call 43 [t0, t51] H fun t52 H =>
  andR (andB (ckV (aLoad .none H t40) t41) (andB (ckV (aLen .sl H t25) t44) true)) (
  pO (aBin .rem t46 t52) H fun t53 H =>
  pC call 42 [t0, t41, t53] H fun t54 H =>
  some (t54, H)))
noncomputable def S21_1 (call : CallFn) (t0 t1 : AV) (H : AHeap) : R :=
  pC call 39 [t0] H fun t11 H =>
  pExt t11 0 H fun t12 H =>
  pExt t11 1 H fun _ H =>
  pNeq t12 (.int .i64 (.ofNat 0)) H fun t15 H =>
  onBool t15 (some ((.bool false), H)) (pEql t1 (.int .i64 (.negSucc 9223372036854775807)) H fun t18 H =>
  onBool t18 (S21_0 call t0 (.int .i64 (.ofNat 0)) H) (pLss t1 (.int .i64 (.ofNat 0)) H fun t21 H =>
  onBool t21 (pO (aUn .neg t1) H fun t23 H =>
  S21_0 call t0 t23 H) (S21_0 call t0 t1 H)))
noncomputable def S21 : Ff := ⟨fun call l H => argA2 (fun t0 t1 => S21_1 call t0 t1 H) l⟩
/- gantline/run.Told -/
noncomputable def S22_0 (call : CallFn) (t0 t1 : AV) (H : AHeap) : R :=
  pNew [.nilsl, (.int .i64 (.ofNat 0)), (.int .i64 (.ofNat 0)), (.int .i64 (.ofNat 0)), (.int .i64 (.ofNat 0)), (.int .i64 (.ofNat 0)), .nilsl] H fun t4 H =>
  pC call 39 [t0] H fun t9 H =>
  pExt t9 0 H fun t10 H =>
  pExt t9 1 H fun t11 H =>
  pC call 44 [t0] H fun t13 H =>
  pC call 45 [t0] H fun t18 H =>
  pC call 46 [t18] H fun t19 H =>
  pC call 47 [t19] H fun t20 H =>
  pC call 45 [t0] H fun t22 H =>
  pC call 48 [t22] H fun t23 H =>
  pC call 49 [t0] H fun t25 H =>
  pO (someAgg (aFill [.nilsl, (.int .i64 (.ofNat 0)), (.int .i64 (.ofNat 0)), (.int .i64 (.ofNat 0)), (.int .i64 (.ofNat 0)), (.int .i64 (.ofNat 0)), .nilsl] [(0, 1, t13), (1, 1, t10), (2, 1, t11), (3, 1, t1), (4, 1, t20), (5, 1, t23), (6, 1, t25)])) H fun t26 H =>
  stK 7 H t4 t26 fun _ H =>
  ob (allM (fun o => o) [aLoad (.some 7) H t4]) fun vs => some (resV vs, H)
noncomputable def S22 : Ff := ⟨fun call l H => argA2 (fun t0 t1 => S22_0 call t0 t1 H) l⟩
/- gantline/code.Decode -/
noncomputable def S23_0 (_ : CallFn) (t2 t5 t52 t58 : AV) (H : AHeap) : R :=
  pPick t52 (.bool true) t58 H fun t59 H =>
  onBool t59 (pO (someAgg (aFill [.nilsl, .nilsl, .nilsl, .nilsl, .nilsl, (.int .i64 (.ofNat 0))] [])) H fun t60 H =>
  stK 6 H t2 t60 fun _ H =>
  ob (allM (fun o => o) [aLoad (.some 6) H t2, some (.int .i64 (.ofNat 3))]) fun vs => some (resV vs, H)) (ldK (.some 6) H t5 fun t61 H =>
  stK 6 H t2 t61 fun _ H =>
  ob (allM (fun o => o) [aLoad (.some 6) H t2, some (.int .i64 (.ofNat 0))]) fun vs => some (resV vs, H))
noncomputable def S23_1 (call : CallFn) (t0 : AV) (H : AHeap) : R :=
  pNew [.nilsl, .nilsl, .nilsl, .nilsl, .nilsl, (.int .i64 (.ofNat 0))] H fun t2 H =>
  pO (aLen .sl H t0) H fun t10 H =>
  pC call 27 [] H fun t7 H =>
  andR (andB (ckV (aLen .sl H t0) t10) true) (
  pO (aLen .sl H t7) H fun t8 H =>
  pO (aMinMax false t8 t10) H fun t11 H =>
  pO (aSlice 1 H t0 .none (.some t11) .none) H fun t12 H =>
  pC call 27 [] H fun t13 H =>
  andR (andB (ckV (aLen .sl H t0) t10) (andB (ckV (aLen .sl H t7) t8) (andB (ckV (aSlice 1 H t0 .none (.some t11) .none) t12) true))) (
  pC call 50 [t12, t13] H fun t14 H =>
  pO (aUn .not t14) H fun t15 H =>
  onBool t15 (pO (someAgg (aFill [.nilsl, .nilsl, .nilsl, .nilsl, .nilsl, (.int .i64 (.ofNat 0))] [])) H fun t16 H =>
  stK 6 H t2 t16 fun _ H =>
  ob (allM (fun o => o) [aLoad (.some 6) H t2, some (.int .i64 (.ofNat 3))]) fun vs => some (resV vs, H)) (pC call 27 [] H fun t18 H =>
  pO (aLen .sl H t18) H fun t19 H =>
  pO (aSlice 1 H t0 (.some t19) .none .none) H fun t20 H =>
  pO (someAgg (aFill [.nilsl, (.bool false)] [(0, 1, t20)])) H fun t21 H =>
  pBox t21 H fun t22 H =>
  pNew [.nilp] H fun t4 H =>
  stK 1 H t4 t22 fun _ H =>
  pNew [.nilsl, .nilsl, .nilsl, .nilsl, .nilsl, (.int .i64 (.ofNat 0))] H fun t5 H =>
  ldK .none H t4 fun t23 H =>
  pC call 51 [t23, (.fn 52 [] [t4])] H fun t25 H =>
  pFa 0 t5 H fun t26 H =>
  stK 1 H t26 t25 fun _ H =>
  ldK .none H t4 fun t27 H =>
  ldK .none H t4 fun t28 H =>
  pC call 55 [t27, (.fn 56 [t28] [])] H fun t30 H =>
  pFa 1 t5 H fun t31 H =>
  stK 1 H t31 t30 fun _ H =>
  ldK .none H t4 fun t32 H =>
  pC call 57 [t32, (.fn 58 [] [t4])] H fun t34 H =>
  pFa 2 t5 H fun t35 H =>
  stK 1 H t35 t34 fun _ H =>
  ldK .none H t4 fun t36 H =>
  pC call 60 [t36, (.fn 61 [] [t4])] H fun t38 H =>
  pFa 3 t5 H fun t39 H =>
  stK 1 H t39 t38 fun _ H =>
  ldK .none H t4 fun t40 H =>
  ldK .none H t4 fun t41 H =>
  pC call 62 [t40, (.fn 63 [t41] [])] H fun t43 H =>
  pFa 4 t5 H fun t44 H =>
  stK 1 H t44 t43 fun _ H =>
  ldK .none H t4 fun t45 H =>
  pC call 53 [t45] H fun t46 H =>
  pFa 5 t5 H fun t47 H =>
  stK 1 H t47 t46 fun _ H =>
  ldK .none H t4 fun t48 H =>
  pO (aNil t48) H fun t49 H =>
  pFa 1 t49 H fun t50 H =>
  ldK .none H t50 fun t51 H =>
  guardA t51 false (ldK .none H t4 fun t53 H =>
  pO (aNil t53) H fun t54 H =>
  pFa 0 t54 H fun t55 H =>
  ldK .none H t55 fun t56 H =>
  pO (aLen .sl H t56) H fun t57 H =>
  pGtr t57 (.int .i64 (.ofNat 0)) H fun t58 H =>
  S23_0 call t2 t5 t51 t58 H) (S23_0 call t2 t5 t51 U H))))
noncomputable def S23 : Ff := ⟨fun call l H => argA1 (fun t0 => S23_1 call t0 H) l⟩
/- (*gantline/run.follower).may -/
noncomputable def S24_0 (_ : CallFn) (t12 t17 : AV) (H : AHeap) : R :=
  pPick t12 t17 (.bool false) H fun t18 H =>
  some (t18, H)
noncomputable def S24_1 (call : CallFn) (t0 t1 : AV) (H : AHeap) : R :=
  pO (aNil t0) H fun t6 H =>
  pFa 0 t6 H fun t7 H =>
  ldK .none H t7 fun t8 H =>
  pC call 43 [t8, t1] H fun t10 H =>
  pGtr t10 (.int .i64 (.ofNat 0)) H fun t11 H =>
  guardA t11 true (pO (aNil t0) H fun t14 H =>
  pFa 2 t14 H fun t15 H =>
  ldK .none H t15 fun t16 H =>
  pLss t16 (.int .i64 (.ofNat 100000)) H fun t17 H =>
  S24_0 call t11 t17 H) (S24_0 call t11 U H)
noncomputable def S24 : Ff := ⟨fun call l H => argA2 (fun t0 t1 => S24_1 call t0 t1 H) l⟩
/- (*gantline/run.follower).act -/
noncomputable def S25_0 (call : CallFn) (n : Nat) : AV → AV → AV → AV → AHeap → R :=
  Nat.rec (motive := fun _ => AV → AV → AV → AV → AHeap → R) (fun _ _ _ _ _ => none) (fun _ q0 t0 t1 t2 t7 H => pC call 64 [t0, t1, t2] H fun t17 H =>
  onBool t17 (pO (aNil t0) H fun t19 H =>
  pFa 0 t19 H fun t20 H =>
  ldK .none H t20 fun t21 H =>
  pC call 49 [t21] H fun t22 H =>
  pO (aLen .sl H t22) H fun t23 H =>
  pGtr t23 t7 H fun t25 H =>
  onBool t25 (some ((.bool true), H)) (q0 t0 t1 t2 t7 H)) (some ((.bool false), H))) n
noncomputable def S25_1 (call : CallFn) (t0 t1 t2 : AV) (H : AHeap) : R :=
  pO (aNil t0) H fun t9 H =>
  pFa 0 t9 H fun t10 H =>
  ldK .none H t10 fun t11 H =>
  pC call 49 [t11] H fun t12 H =>
  pO (aLen .sl H t12) H fun t13 H =>
  S25_0 call 1000000 t0 t1 t2 t13 H
noncomputable def S25 : Ff := ⟨fun call l H => argA3 (fun t0 t1 t2 => S25_1 call t0 t1 t2 H) l⟩
/- gantline/live.Sets -/
noncomputable def S26_0 (_ : CallFn) (t5 : AV) (H : AHeap) : R :=
  ldK .none H t5 fun t52 H =>
  some (t52, H)
noncomputable def S26_3 (_ : CallFn) (q1 : AV → AV → AV → AV → AV → AV → AHeap → R) (t2 t3 t5 t6 t7 t8 : AV) (H : AHeap) : R :=
  pSub t8 (.int .i64 (.ofNat 1)) H fun t24 H =>
  q1 t2 t3 t5 t6 t7 t24 H
noncomputable def S26_2 (call : CallFn) (q0 : AV → AV → AV → AV → AV → AHeap → R) (n : Nat) : AV → AV → AV → AV → AV → AV → AHeap → R :=
  Nat.rec (motive := fun _ => AV → AV → AV → AV → AV → AV → AHeap → R) (fun _ _ _ _ _ _ _ => none) (fun _ q1 t2 t3 t5 t6 t7 t8 H => pGeq t8 (.int .i64 (.ofNat 0)) H fun t22 H =>
  onBool t22 (pFa 5 t3 H fun t25 H =>
  ldK .none H t25 fun t26 H =>
  pIa 5 t26 t8 H fun t28 H =>
  ldK (.some 5) H t28 fun t29 H =>
  pNew [(.int .i64 (.ofNat 0)), (.int .i64 (.ofNat 0)), (.int .i64 (.ofNat 0)), (.int .i64 (.ofNat 0)), (.int .i64 (.ofNat 0))] H fun t9 H =>
  stK 5 H t9 t29 fun _ H =>
  ldK (.some 6) H t2 fun t30 H =>
  ldK (.some 5) H t9 fun t31 H =>
  ldK (.some 5) H t9 fun t37 H =>
  pC call 69 [t30, t31] H fun t32 H =>
  andR (andB (ckV (aLoad (.some 5) H t9) t37) true) (
  pC call 67 [t32] H fun t33 H =>
  andR (andB (ckV (aLoad (.some 5) H t9) t37) true) (
  pV call t6 [t8] H fun t36 H =>
  andR (andB (ckV (aLoad (.some 5) H t9) t37) true) (
  pC call 70 [t37] H fun t38 H =>
  pC call 67 [t38] H fun t39 H =>
  pAndN t36 t39 H fun t40 H =>
  pOr t33 t40 H fun t41 H =>
  ldK .none H t5 fun t43 H =>
  pIa 1 t43 t8 H fun t45 H =>
  ldK .none H t45 fun t46 H =>
  pNeq t41 t46 H fun t47 H =>
  onBool t47 (ldK .none H t5 fun t48 H =>
  pIa 1 t48 t8 H fun t51 H =>
  stK 1 H t51 t41 fun _ H =>
  S26_3 call q1 t2 t3 t5 t6 (.bool true) t8 H) (S26_3 call q1 t2 t3 t5 t6 t7 t8 H))))) (q0 t2 t3 t5 t6 t7 H)) n
noncomputable def S26_1 (call : CallFn) (n : Nat) : AV → AV → AV → AV → AV → AHeap → R :=
  Nat.rec (motive := fun _ => AV → AV → AV → AV → AV → AHeap → R) (fun _ _ _ _ _ _ => none) (fun _ q0 t2 t3 t5 t6 t7 H => onBool t7 (pFa 5 t3 H fun t17 H =>
  ldK .none H t17 fun t18 H =>
  pO (aLen .sl H t18) H fun t19 H =>
  pSub t19 (.int .i64 (.ofNat 1)) H fun t20 H =>
  S26_2 call q0 1000000 t2 t3 t5 t6 (.bool false) t20 H) (S26_0 call t5 H)) n
noncomputable def S26_4 (call : CallFn) (t0 t1 : AV) (H : AHeap) : R :=
  pBox t0 H fun t2 H =>
  pBox t1 H fun t3 H =>
  pFa 5 t3 H fun t11 H =>
  ldK .none H t11 fun t12 H =>
  pO (aLen .sl H t12) H fun t13 H =>
  pN (aMksl 1 8 [(.int .u64 (.ofNat 0))] t13 t13) H fun t14 H =>
  pNew [.nilsl] H fun t5 H =>
  stK 1 H t5 t14 fun _ H =>
  S26_1 call 1000000 t2 t3 t5 (.fn 65 [] [t3, t2, t5]) (.bool true) H
noncomputable def S26 : Ff := ⟨fun call l H => argA2 (fun t0 t1 => S26_4 call t0 t1 H) l⟩
/- gantline/code.magic -/
noncomputable def S27_0 (_ : CallFn) (H : AHeap) : R :=
  pN (aBsl 1 4 [(.int .u8 (.ofNat 0))] [(0, 1, (.int .u8 (.ofNat 71))), (1, 1, (.int .u8 (.ofNat 79))), (2, 1, (.int .u8 (.ofNat 76))), (3, 1, (.int .u8 (.ofNat 49)))]) H fun t1 H =>
  some (t1, H)
noncomputable def S27 : Ff := ⟨fun call l H => argA0 (S27_0 call H) l⟩
/- (*gantline/code.writer).num -/
noncomputable def S28_0 (_ : CallFn) (t0 t1 : AV) (H : AHeap) : R :=
  pO (aNil t0) H fun t23 H =>
  pFa 0 t23 H fun t24 H =>
  ldK .none H t24 fun t25 H =>
  pConv .u8 t1 H fun t27 H =>
  pN (aBsl 1 1 [(.int .u8 (.ofNat 0))] [(0, 1, t27)]) H fun t28 H =>
  pW (aApp 1 1 H t25 t28) fun t29 H =>
  pO (aNil t0) H fun t30 H =>
  pFa 0 t30 H fun t31 H =>
  stK 1 H t31 t29 fun _ H =>
  some (.tup [], H)
noncomputable def S28_1 (call : CallFn) (n : Nat) : AV → AV → AHeap → R :=
  Nat.rec (motive := fun _ => AV → AV → AHeap → R) (fun _ _ _ => none) (fun _ q0 t0 t1 H => pGtr t1 (.int .u64 (.ofNat 127)) H fun t5 H =>
  onBool t5 (pO (aNil t0) H fun t10 H =>
  pFa 0 t10 H fun t11 H =>
  ldK .none H t11 fun t12 H =>
  pAnd t1 (.int .u64 (.ofNat 127)) H fun t14 H =>
  pOr t14 (.int .u64 (.ofNat 128)) H fun t15 H =>
  pConv .u8 t15 H fun t16 H =>
  pN (aBsl 1 1 [(.int .u8 (.ofNat 0))] [(0, 1, t16)]) H fun t17 H =>
  pW (aApp 1 1 H t12 t17) fun t18 H =>
  pO (aNil t0) H fun t19 H =>
  pFa 0 t19 H fun t20 H =>
  stK 1 H t20 t18 fun _ H =>
  pO (aBin .shr t1 (.int .u64 (.ofNat 7))) H fun t7 H =>
  q0 t0 t7 H) (S28_0 call t0 t1 H)) n
noncomputable def S28 : Ff := ⟨fun call l H => argA2 (fun t0 t1 => S28_1 call 1000000 t0 t1 H) l⟩
/- (*gantline/code.writer).ints -/
noncomputable def S29_0 (call : CallFn) (n : Nat) : AV → AV → AV → AV → AHeap → R :=
  Nat.rec (motive := fun _ => AV → AV → AV → AV → AHeap → R) (fun _ _ _ _ _ => none) (fun _ q0 t0 t6 t7 t8 H => pLss t8 t7 H fun t9 H =>
  onBool t9 (pIa 1 t6 t8 H fun t10 H =>
  ldK .none H t10 fun t11 H =>
  pC call 31 [t11] H fun t14 H =>
  pC call 28 [t0, t14] H fun _ H =>
  pAdd t8 (.int .i64 (.ofNat 1)) H fun t16 H =>
  q0 t0 t6 t7 t16 H) (some (.tup [], H))) n
noncomputable def S29_1 (call : CallFn) (t0 t1 : AV) (H : AHeap) : R :=
  pO (aLen .sl H t1) H fun t7 H =>
  S29_0 call 1000000 t0 t1 t7 (.int .i64 (.ofNat 0)) H
noncomputable def S29 : Ff := ⟨fun call l H => argA2 (fun t0 t1 => S29_1 call t0 t1 H) l⟩
/- (*gantline/code.writer).flags -/
noncomputable def S30_1 (_ : CallFn) (q0 : AV → AV → AV → AV → AHeap → R) (t0 t11 t12 t13 : AV) (H : AHeap) : R :=
  pAdd t13 (.int .i64 (.ofNat 1)) H fun t22 H =>
  q0 t0 t11 t12 t22 H
noncomputable def S30_0 (call : CallFn) (n : Nat) : AV → AV → AV → AV → AHeap → R :=
  Nat.rec (motive := fun _ => AV → AV → AV → AV → AHeap → R) (fun _ _ _ _ _ => none) (fun _ q0 t0 t11 t12 t13 H => pLss t13 t12 H fun t14 H =>
  onBool t14 (pIa 1 t11 t13 H fun t15 H =>
  ldK .none H t15 fun t16 H =>
  onBool t16 (pC call 28 [t0, (.int .u64 (.ofNat 1))] H fun _ H =>
  S30_1 call q0 t0 t11 t12 t13 H) (pC call 28 [t0, (.int .u64 (.ofNat 0))] H fun _ H =>
  S30_1 call q0 t0 t11 t12 t13 H)) (some (.tup [], H))) n
noncomputable def S30_2 (call : CallFn) (t0 t1 : AV) (H : AHeap) : R :=
  pO (aLen .sl H t1) H fun t8 H =>
  pConv .u64 t8 H fun t9 H =>
  pC call 28 [t0, t9] H fun _ H =>
  pO (aLen .sl H t1) H fun t12 H =>
  S30_0 call 1000000 t0 t1 t12 (.int .i64 (.ofNat 0)) H
noncomputable def S30 : Ff := ⟨fun call l H => argA2 (fun t0 t1 => S30_2 call t0 t1 H) l⟩
/- gantline/bits.Zig -/
noncomputable def S31_0 (_ : CallFn) (t0 : AV) (H : AHeap) : R :=
  pO (aBin .shl t0 (.int .u64 (.ofNat 1))) H fun t4 H =>
  pConv .u64 t4 H fun t5 H =>
  pO (aBin .shr t0 (.int .u64 (.ofNat 63))) H fun t7 H =>
  pConv .u64 t7 H fun t8 H =>
  pXor t5 t8 H fun t9 H =>
  some (t9, H)
noncomputable def S31 : Ff := ⟨fun call l H => argA1 (fun t0 => S31_0 call t0 H) l⟩
/- (*gantline/code.writer).fn -/
noncomputable def S32_0 (call : CallFn) (n : Nat) : AV → AV → AV → AV → AHeap → R :=
  Nat.rec (motive := fun _ => AV → AV → AV → AV → AHeap → R) (fun _ _ _ _ _ => none) (fun _ q0 t0 t57 t58 t59 H => pLss t59 t58 H fun t60 H =>
  onBool t60 (pIa 1 t57 t59 H fun t61 H =>
  ldK .none H t61 fun t62 H =>
  pC call 28 [t0, t62] H fun _ H =>
  pAdd t59 (.int .i64 (.ofNat 1)) H fun t66 H =>
  q0 t0 t57 t58 t66 H) (some (.tup [], H))) n
noncomputable def S32_1 (call : CallFn) (t0 t3 : AV) (H : AHeap) : R :=
  pFa 6 t3 H fun t51 H =>
  ldK .none H t51 fun t52 H =>
  pO (aLen .sl H t52) H fun t53 H =>
  pConv .u64 t53 H fun t54 H =>
  pC call 28 [t0, t54] H fun _ H =>
  pFa 6 t3 H fun t56 H =>
  ldK .none H t56 fun t57 H =>
  pO (aLen .sl H t57) H fun t58 H =>
  S32_0 call 1000000 t0 t57 t58 (.int .i64 (.ofNat 0)) H
noncomputable def S32_2 (call : CallFn) (n : Nat) : AV → AV → AV → AV → AV → AHeap → R :=
  Nat.rec (motive := fun _ => AV → AV → AV → AV → AV → AHeap → R) (fun _ _ _ _ _ _ => none) (fun _ q1 t0 t3 t30 t31 t32 H => pLss t32 t31 H fun t33 H =>
  onBool t33 (pIa 5 t30 t32 H fun t34 H =>
  ldK (.some 5) H t34 fun t35 H =>
  pNew [(.int .i64 (.ofNat 0)), (.int .i64 (.ofNat 0)), (.int .i64 (.ofNat 0)), (.int .i64 (.ofNat 0)), (.int .i64 (.ofNat 0))] H fun t5 H =>
  stK 5 H t5 t35 fun _ H =>
  pFa 0 t5 H fun t37 H =>
  ldK .none H t37 fun t38 H =>
  pFa 1 t5 H fun t39 H =>
  ldK .none H t39 fun t40 H =>
  pFa 2 t5 H fun t41 H =>
  ldK .none H t41 fun t42 H =>
  pFa 3 t5 H fun t43 H =>
  ldK .none H t43 fun t44 H =>
  pFa 4 t5 H fun t45 H =>
  ldK .none H t45 fun t46 H =>
  pN (aBsl 1 5 [(.int .i64 (.ofNat 0))] [(0, 1, t38), (1, 1, t40), (2, 1, t42), (3, 1, t44), (4, 1, t46)]) H fun t47 H =>
  pC call 29 [t0, t47] H fun _ H =>
  pAdd t32 (.int .i64 (.ofNat 1)) H fun t49 H =>
  q1 t0 t3 t30 t31 t49 H) (S32_1 call t0 t3 H)) n
noncomputable def S32_3 (call : CallFn) (t0 t1 : AV) (H : AHeap) : R :=
  pBox t1 H fun t3 H =>
  pFa 0 t3 H fun t9 H =>
  ldK .none H t9 fun t10 H =>
  pFa 1 t3 H fun t11 H =>
  ldK .none H t11 fun t12 H =>
  pFa 2 t3 H fun t13 H =>
  ldK .none H t13 fun t14 H =>
  pFa 3 t3 H fun t15 H =>
  ldK .none H t15 fun t16 H =>
  pN (aBsl 1 4 [(.int .i64 (.ofNat 0))] [(0, 1, t10), (1, 1, t12), (2, 1, t14), (3, 1, t16)]) H fun t17 H =>
  pC call 29 [t0, t17] H fun _ H =>
  pFa 4 t3 H fun t20 H =>
  ldK .none H t20 fun t21 H =>
  pC call 30 [t0, t21] H fun _ H =>
  pFa 5 t3 H fun t24 H =>
  ldK .none H t24 fun t25 H =>
  pO (aLen .sl H t25) H fun t26 H =>
  pConv .u64 t26 H fun t27 H =>
  pC call 28 [t0, t27] H fun _ H =>
  pFa 5 t3 H fun t29 H =>
  ldK .none H t29 fun t30 H =>
  pO (aLen .sl H t30) H fun t31 H =>
  S32_2 call 1000000 t0 t3 t30 t31 (.int .i64 (.ofNat 0)) H
noncomputable def S32 : Ff := ⟨fun call l H => argA2 (fun t0 t1 => S32_3 call t0 t1 H) l⟩
/- gantline/verify.Module -/
noncomputable def S33_0 (call : CallFn) (t0 : AV) (H : AHeap) : R :=
  pBox t0 H fun t1 H =>
  ldK (.some 6) H t1 fun t6 H =>
  pC call 71 [t6] H fun t7 H =>
  pExt t7 0 H fun t8 H =>
  pExt t7 1 H fun t9 H =>
  pNew [(.int .i64 (.ofNat 0)), (.int .i64 (.ofNat 0)), (.int .i64 (.ofNat 0))] H fun t3 H =>
  stK 3 H t3 t8 fun _ H =>
  some (t9, H)
noncomputable def S33 : Ff := ⟨fun call l H => argA1 (fun t0 => S33_0 call t0 H) l⟩
/- gantline/heap.New -/
noncomputable def S34_0 (call : CallFn) (t1 t8 : AV) (H : AHeap) : R :=
  pC call 75 [t1] H fun t42 H =>
  pO (aNil t8) H fun t43 H =>
  pFa 1 t43 H fun t44 H =>
  stK 1 H t44 t42 fun _ H =>
  some (.tup [t8, (.int .i64 (.ofNat 0))], H)
noncomputable def S34_1 (call : CallFn) (n : Nat) : AV → AV → AV → AV → AV → AV → AHeap → R :=
  Nat.rec (motive := fun _ => AV → AV → AV → AV → AV → AV → AHeap → R) (fun _ _ _ _ _ _ _ => none) (fun _ q0 t1 t6 t8 t24 t25 t26 H => pLss t26 t25 H fun t27 H =>
  onBool t27 (pIa 3 t24 t26 H fun t28 H =>
  ldK (.some 3) H t28 fun t29 H =>
  pNew [(.int .i64 (.ofNat 0)), (.int .i64 (.ofNat 0)), (.int .u64 (.ofNat 0))] H fun t10 H =>
  stK 3 H t10 t29 fun _ H =>
  ldK (.some 3) H t10 fun t33 H =>
  pC call 73 [t6] H fun t32 H =>
  andR (andB (ckV (aLoad (.some 3) H t10) t33) true) (
  pC call 74 [t32, t33] H fun t34 H =>
  pExt t34 0 H fun _ H =>
  pExt t34 1 H fun t36 H =>
  pNeq t36 (.int .i64 (.ofNat 0)) H fun t38 H =>
  onBool t38 (some (.tup [.nilp, (.int .i64 (.ofNat 1))], H)) (pAdd t26 (.int .i64 (.ofNat 1)) H fun t39 H =>
  q0 t1 t6 t8 t24 t25 t39 H))) (S34_0 call t1 t8 H)) n
noncomputable def S34_2 (call : CallFn) (t0 t1 : AV) (H : AHeap) : R :=
  pC call 72 [t0] H fun t15 H =>
  pExt t15 0 H fun t16 H =>
  pExt t15 1 H fun t17 H =>
  pNeq t17 (.int .i64 (.ofNat 0)) H fun t19 H =>
  onBool t19 (some (.tup [.nilp, t17], H)) (pO (someAgg (aFill [.nilp, .nilsl, (.int .i64 (.ofNat 0))] [(0, 1, t16)])) H fun t22 H =>
  pBox t22 H fun t23 H =>
  pO (aLen .sl H t1) H fun t25 H =>
  S34_1 call 1000000 t1 t16 t23 t1 t25 (.int .i64 (.ofNat 0)) H)
noncomputable def S34 : Ff := ⟨fun call l H => argA2 (fun t0 t1 => S34_2 call t0 t1 H) l⟩
/- gantline/vm.clone -/
noncomputable def S35_0 (_ : CallFn) (t1 t2 : AV) (H : AHeap) : R :=
  ldK (.some 6) H t1 fun t60 H =>
  stK 6 H t2 t60 fun _ H =>
  ob (allM (fun o => o) [aLoad (.some 6) H t2]) fun vs => some (resV vs, H)
noncomputable def S35_1 (call : CallFn) (n : Nat) : AV → AV → AV → AV → AHeap → R :=
  Nat.rec (motive := fun _ => AV → AV → AV → AV → AHeap → R) (fun _ _ _ _ _ => none) (fun _ q0 t1 t2 t27 t28 H => pLss t28 t27 H fun t29 H =>
  onBool t29 (pFa 4 t1 H fun t31 H =>
  ldK .none H t31 fun t32 H =>
  pIa 7 t32 t28 H fun t34 H =>
  pO (aNil t34) H fun t39 H =>
  pFa 4 t39 H fun t40 H =>
  ldK .none H t40 fun t41 H =>
  pO (aNil t34) H fun t44 H =>
  pFa 5 t44 H fun t45 H =>
  ldK .none H t45 fun t46 H =>
  pO (aNil t34) H fun t49 H =>
  pFa 6 t49 H fun t50 H =>
  ldK .none H t50 fun t51 H =>
  pC call 76 [t41] H fun t42 H =>
  andR (andB (ckV (aLoad .none H t45) t46) (andB (ckV (aLoad .none H t50) t51) true)) (
  pC call 80 [t46] H fun t47 H =>
  andR (andB (ckV (aLoad .none H t50) t51) true) (
  pC call 81 [t51] H fun t52 H =>
  pO (aNil t34) H fun t53 H =>
  pFa 4 t53 H fun t54 H =>
  stK 1 H t54 t42 fun _ H =>
  pO (aNil t34) H fun t55 H =>
  pFa 5 t55 H fun t56 H =>
  stK 1 H t56 t47 fun _ H =>
  pO (aNil t34) H fun t57 H =>
  pFa 6 t57 H fun t58 H =>
  stK 1 H t58 t52 fun _ H =>
  pAdd t28 (.int .i64 (.ofNat 1)) H fun t59 H =>
  q0 t1 t2 t27 t59 H))) (S35_0 call t1 t2 H)) n
noncomputable def S35_2 (call : CallFn) (t0 : AV) (H : AHeap) : R :=
  pBox t0 H fun t1 H =>
  pNew [.nilsl, .nilsl, .nilsl, .nilsl, .nilsl, (.int .i64 (.ofNat 0))] H fun t2 H =>
  pFa 0 t1 H fun t5 H =>
  ldK .none H t5 fun t6 H =>
  pFa 1 t1 H fun t8 H =>
  ldK .none H t8 fun t9 H =>
  pFa 2 t1 H fun t11 H =>
  ldK .none H t11 fun t12 H =>
  pFa 3 t1 H fun t14 H =>
  ldK .none H t14 fun t15 H =>
  pC call 75 [t6] H fun t7 H =>
  andR (andB (ckV (aLoad .none H t8) t9) (andB (ckV (aLoad .none H t11) t12) (andB (ckV (aLoad .none H t14) t15) true))) (
  pFa 0 t1 H fun t17 H =>
  pC call 76 [t9] H fun t10 H =>
  andR (andB (ckV (aLoad .none H t11) t12) (andB (ckV (aLoad .none H t14) t15) true)) (
  pC call 77 [t12] H fun t13 H =>
  andR (andB (ckV (aLoad .none H t14) t15) true) (
  pC call 78 [t15] H fun t16 H =>
  stK 1 H t17 t7 fun _ H =>
  pFa 1 t1 H fun t18 H =>
  stK 1 H t18 t10 fun _ H =>
  pFa 2 t1 H fun t19 H =>
  stK 1 H t19 t13 fun _ H =>
  pFa 3 t1 H fun t20 H =>
  stK 1 H t20 t16 fun _ H =>
  pFa 4 t1 H fun t21 H =>
  ldK .none H t21 fun t22 H =>
  pC call 79 [t22] H fun t23 H =>
  pFa 4 t1 H fun t24 H =>
  stK 1 H t24 t23 fun _ H =>
  pFa 4 t1 H fun t25 H =>
  ldK .none H t25 fun t26 H =>
  pO (aLen .sl H t26) H fun t27 H =>
  S35_1 call 1000000 t1 t2 t27 (.int .i64 (.ofNat 0)) H)))
noncomputable def S35 : Ff := ⟨fun call l H => argA1 (fun t0 => S35_2 call t0 H) l⟩
/- gantline/sched.New -/
noncomputable def S36_0 (_ : CallFn) (t0 : AV) (H : AHeap) : R :=
  pBox t0 H fun t1 H =>
  ldK (.some 6) H t1 fun t3 H =>
  pMap H fun t4 H =>
  pO (someAgg (aFill [.nilsl, .nilsl, .nilsl, .nilsl, .nilsl, (.int .i64 (.ofNat 0)), .nilmap, (.int .i64 (.ofNat 0))] [(0, 6, t3), (6, 1, t4)])) H fun t5 H =>
  pBox t5 H fun t6 H =>
  some (t6, H)
noncomputable def S36 : Ff := ⟨fun call l H => argA1 (fun t0 => S36_0 call t0 H) l⟩
/- (*gantline/sched.Table).Add -/
noncomputable def S37_0 (call : CallFn) (t0 t1 t2 : AV) (H : AHeap) : R :=
  pO (aNil t0) H fun t11 H =>
  pFa 6 t11 H fun t12 H =>
  ldK .none H t12 fun t13 H =>
  pO (aLen .map H t13) H fun t14 H =>
  pGeq t14 (.int .i64 (.ofNat 64)) H fun t15 H =>
  onBool t15 (some (.tup [(.int .i64 (.ofNat 0)), (.int .i64 (.ofNat 2))], H)) (pO (aNil t0) H fun t18 H =>
  pFa 0 t18 H fun t19 H =>
  ldK (.some 6) H t19 fun t20 H =>
  pC call 82 [t20, t1, t2] H fun t23 H =>
  pExt t23 0 H fun t24 H =>
  pExt t23 1 H fun t25 H =>
  pNeq t25 (.int .i64 (.ofNat 0)) H fun t27 H =>
  onBool t27 (some (.tup [(.int .i64 (.ofNat 0)), t25], H)) (pO (aNil t0) H fun t30 H =>
  pFa 7 t30 H fun t31 H =>
  ldK .none H t31 fun t32 H =>
  pAdd t32 (.int .i64 (.ofNat 1)) H fun t33 H =>
  pO (aNil t0) H fun t34 H =>
  pFa 7 t34 H fun t35 H =>
  stK 1 H t35 t33 fun _ H =>
  pO (aNil t0) H fun t37 H =>
  pFa 6 t37 H fun t38 H =>
  ldK .none H t38 fun t39 H =>
  pO (aNil t0) H fun t41 H =>
  pFa 7 t41 H fun t42 H =>
  ldK .none H t42 fun t43 H =>
  pW (unitW (aMapUp .int H t39 t43 t24)) fun _ H =>
  pO (aNil t0) H fun t46 H =>
  pFa 7 t46 H fun t47 H =>
  ldK .none H t47 fun t48 H =>
  some (.tup [t48, (.int .i64 (.ofNat 0))], H)))
noncomputable def S37 : Ff := ⟨fun call l H => argA3 (fun t0 t1 t2 => S37_0 call t0 t1 t2 H) l⟩
/- (*gantline/vm.Machine).settle -/
noncomputable def S38_0 (_ : CallFn) (t0 t7 t18 : AV) (H : AHeap) : R :=
  pPick t7 t18 (.bool false) H fun t19 H =>
  onBool t19 (pO (aNil t0) H fun t21 H =>
  pFa 11 t21 H fun t22 H =>
  stK 1 H t22 (.int .i64 (.ofNat 3)) fun _ H =>
  some (.tup [], H)) (some (.tup [], H))
noncomputable def S38_1 (call : CallFn) (t0 t7 t17 : AV) (H : AHeap) : R :=
  guardA t7 true (pEql t17 (.int .i64 (.ofNat 0)) H fun t18 H =>
  S38_0 call t0 t7 t18 H) (S38_0 call t0 t7 U H)
noncomputable def S38_2 (call : CallFn) (t0 t7 t16 : AV) (H : AHeap) : R :=
  guardA t7 true (pO (aLen .sl H t16) H fun t17 H =>
  S38_1 call t0 t7 t17 H) (S38_1 call t0 t7 U H)
noncomputable def S38_3 (call : CallFn) (t0 t7 t11 t15 : AV) (H : AHeap) : R :=
  guardA t7 true (pC call 83 [t11, t15] H fun t16 H =>
  S38_2 call t0 t7 t16 H) (S38_2 call t0 t7 U H)
noncomputable def S38_4 (call : CallFn) (t0 t7 t11 t14 : AV) (H : AHeap) : R :=
  guardA t7 true (ldK .none H t14 fun t15 H =>
  S38_3 call t0 t7 t11 t15 H) (S38_3 call t0 t7 t11 U H)
noncomputable def S38_5 (call : CallFn) (t0 t7 t11 t13 : AV) (H : AHeap) : R :=
  guardA t7 true (pFa 6 t13 H fun t14 H =>
  S38_4 call t0 t7 t11 t14 H) (S38_4 call t0 t7 t11 U H)
noncomputable def S38_6 (call : CallFn) (t0 t7 t11 t12 : AV) (H : AHeap) : R :=
  guardA t7 true (pO (aNil t12) H fun t13 H =>
  S38_5 call t0 t7 t11 t13 H) (S38_5 call t0 t7 t11 U H)
noncomputable def S38_7 (call : CallFn) (t0 t7 t11 : AV) (H : AHeap) : R :=
  guardA t7 true (S38_6 call t0 t7 t11 t0 H) (S38_6 call t0 t7 t11 U H)
noncomputable def S38_8 (call : CallFn) (t0 t7 t10 : AV) (H : AHeap) : R :=
  guardA t7 true (ldK .none H t10 fun t11 H =>
  S38_7 call t0 t7 t11 H) (S38_7 call t0 t7 U H)
noncomputable def S38_9 (call : CallFn) (t0 t7 t9 : AV) (H : AHeap) : R :=
  guardA t7 true (pFa 7 t9 H fun t10 H =>
  S38_8 call t0 t7 t10 H) (S38_8 call t0 t7 U H)
noncomputable def S38_10 (call : CallFn) (t0 t7 t8 : AV) (H : AHeap) : R :=
  guardA t7 true (pO (aNil t8) H fun t9 H =>
  S38_9 call t0 t7 t9 H) (S38_9 call t0 t7 U H)
noncomputable def S38_11 (call : CallFn) (t0 : AV) (H : AHeap) : R :=
  pO (aNil t0) H fun t3 H =>
  pFa 11 t3 H fun t4 H =>
  ldK .none H t4 fun t5 H =>
  pEql t5 (.int .i64 (.ofNat 0)) H fun t6 H =>
  guardA t6 true (S38_10 call t0 t6 t0 H) (S38_10 call t0 t6 U H)
noncomputable def S38 : Ff := ⟨fun call l H => argA1 (fun t0 => S38_11 call t0 H) l⟩
/- (*gantline/vm.Machine).End -/
noncomputable def S39_0 (_ : CallFn) (t0 : AV) (H : AHeap) : R :=
  pO (aNil t0) H fun t5 H =>
  pFa 11 t5 H fun t6 H =>
  ldK .none H t6 fun t7 H =>
  pO (aNil t0) H fun t9 H =>
  pFa 12 t9 H fun t10 H =>
  ldK .none H t10 fun t11 H =>
  some (.tup [t7, t11], H)
noncomputable def S39 : Ff := ⟨fun call l H => argA1 (fun t0 => S39_0 call t0 H) l⟩
/- (*gantline/vm.Machine).Enabled -/
noncomputable def S40_0 (call : CallFn) (t0 : AV) (H : AHeap) : R :=
  pO (aNil t0) H fun t4 H =>
  pFa 11 t4 H fun t5 H =>
  ldK .none H t5 fun t6 H =>
  pNeq t6 (.int .i64 (.ofNat 0)) H fun t7 H =>
  onBool t7 (some (.nilsl, H)) (pO (aNil t0) H fun t9 H =>
  pFa 7 t9 H fun t10 H =>
  ldK .none H t10 fun t11 H =>
  pO (aNil t0) H fun t13 H =>
  pFa 6 t13 H fun t14 H =>
  ldK .none H t14 fun t15 H =>
  pC call 83 [t11, t15] H fun t16 H =>
  some (t16, H))
noncomputable def S40 : Ff := ⟨fun call l H => argA1 (fun t0 => S40_0 call t0 H) l⟩
/- (*gantline/vm.Machine).Collect -/
noncomputable def S41_0 (call : CallFn) (t0 : AV) (H : AHeap) : R :=
  pO (aNil t0) H fun t5 H =>
  pFa 11 t5 H fun t6 H =>
  ldK .none H t6 fun t7 H =>
  pNeq t7 (.int .i64 (.ofNat 0)) H fun t8 H =>
  onBool t8 (some ((.bool false), H)) (pO (aNil t0) H fun t10 H =>
  pFa 6 t10 H fun t11 H =>
  ldK .none H t11 fun t12 H =>
  pC call 46 [t12] H fun t13 H =>
  pC call 84 [t13, (.iface 64 t0)] H fun t17 H =>
  pO (aUn .not t17) H fun t18 H =>
  onBool t18 (pC call 85 [t13, (.iface 64 t0)] H fun _ H =>
  some ((.bool true), H)) (some ((.bool true), H)))
noncomputable def S41 : Ff := ⟨fun call l H => argA1 (fun t0 => S41_0 call t0 H) l⟩
/- (*gantline/vm.Machine).Do -/
noncomputable def S42_0 (call : CallFn) (t0 : AV) (H : AHeap) : R :=
  pC call 38 [t0] H fun _ H =>
  some ((.bool true), H)
noncomputable def S42_1 (call : CallFn) (t0 t1 t2 t7 t9 t11 t82 t87 : AV) (H : AHeap) : R :=
  pPick t82 t87 (.bool false) H fun t88 H =>
  onBool t88 (pO (aNil t0) H fun t91 H =>
  pFa 10 t91 H fun t92 H =>
  ldK .none H t92 fun t93 H =>
  pFa 0 t9 H fun t95 H =>
  ldK .none H t95 fun t96 H =>
  pFa 0 t11 H fun t97 H =>
  ldK .none H t97 fun t98 H =>
  pFa 1 t11 H fun t99 H =>
  ldK .none H t99 fun t100 H =>
  pIa 3 t7 t2 H fun t103 H =>
  ldK (.some 3) H t103 fun t104 H =>
  pO (someAgg (aFill [(.int .i64 (.ofNat 0)), (.int .i64 (.ofNat 0)), (.int .i64 (.ofNat 0)), (.int .i64 (.ofNat 0)), (.int .i64 (.ofNat 0)), (.int .i64 (.ofNat 0)), (.int .i64 (.ofNat 0))] [(0, 1, t1), (1, 1, t96), (2, 1, t98), (3, 1, t100), (4, 3, t104)])) H fun t105 H =>
  pN (aBsl 7 1 [(.int .i64 (.ofNat 0)), (.int .i64 (.ofNat 0)), (.int .i64 (.ofNat 0)), (.int .i64 (.ofNat 0)), (.int .i64 (.ofNat 0)), (.int .i64 (.ofNat 0)), (.int .i64 (.ofNat 0))] [(0, 7, t105)]) H fun t106 H =>
  pW (aApp 7 56 H t93 t106) fun t107 H =>
  pO (aNil t0) H fun t108 H =>
  pFa 10 t108 H fun t109 H =>
  stK 1 H t109 t107 fun _ H =>
  S42_0 call t0 H) (S42_0 call t0 H)
noncomputable def S42_2 (call : CallFn) (t0 t1 t2 t7 t9 t11 t75 t80 : AV) (H : AHeap) : R :=
  pPick t75 t80 (.bool false) H fun t81 H =>
  guardA t81 true (pO (aNil t0) H fun t84 H =>
  pFa 11 t84 H fun t85 H =>
  ldK .none H t85 fun t86 H =>
  pNeq t86 (.int .i64 (.ofNat 4)) H fun t87 H =>
  S42_1 call t0 t1 t2 t7 t9 t11 t81 t87 H) (S42_1 call t0 t1 t2 t7 t9 t11 t81 U H)
noncomputable def S42_3 (call : CallFn) (t0 t1 t2 t7 t20 t24 : AV) (H : AHeap) : R :=
  pPick t20 (.bool true) t24 H fun t25 H =>
  onBool t25 (some ((.bool false), H)) (pO (aNil t0) H fun t27 H =>
  pFa 7 t27 H fun t28 H =>
  ldK .none H t28 fun t29 H =>
  pC call 87 [t29, t1] H fun t31 H =>
  pO (aNil t0) H fun t35 H =>
  pFa 0 t35 H fun t36 H =>
  ldK (.some 6) H t36 fun t37 H =>
  pC call 88 [t31, t37] H fun t38 H =>
  pExt t38 0 H fun t39 H =>
  pExt t38 1 H fun _ H =>
  pNew [(.int .i64 (.ofNat 0)), (.int .i64 (.ofNat 0)), (.int .i64 (.ofNat 0)), (.int .i64 (.ofNat 0)), (.int .i64 (.ofNat 0))] H fun t9 H =>
  stK 5 H t9 t39 fun _ H =>
  pC call 89 [t31] H fun t43 H =>
  pExt t43 0 H fun t44 H =>
  pExt t43 1 H fun _ H =>
  pNew [(.int .i64 (.ofNat 0)), (.int .i64 (.ofNat 0)), .nilsl] H fun t11 H =>
  stK 3 H t11 t44 fun _ H =>
  pFa 0 t9 H fun t46 H =>
  ldK .none H t46 fun t47 H =>
  pC call 91 [t31] H fun t49 H =>
  andR (andB (ckV (aLoad .none H t46) t47) true) (
  pC call 90 [t47, t49] H fun t50 H =>
  ldK (.some 5) H t9 fun t54 H =>
  pO (aNil t0) H fun t56 H =>
  pFa 0 t56 H fun t57 H =>
  pFa 4 t57 H fun t58 H =>
  ldK .none H t58 fun t59 H =>
  pFa 0 t11 H fun t60 H =>
  ldK .none H t60 fun t61 H =>
  pIa 7 t59 t61 H fun t62 H =>
  ldK (.some 7) H t62 fun t63 H =>
  pFa 1 t11 H fun t64 H =>
  ldK .none H t64 fun t65 H =>
  pIa 3 t7 t2 H fun t68 H =>
  ldK (.some 3) H t68 fun t69 H =>
  pO (someAgg (aFill [.nilp, (.int .i64 (.ofNat 0)), .nilp, (.int .i64 (.ofNat 0)), (.int .i64 (.ofNat 0)), (.int .i64 (.ofNat 0)), (.int .i64 (.ofNat 0)), (.int .i64 (.ofNat 0)), (.int .i64 (.ofNat 0)), (.int .i64 (.ofNat 0)), (.int .i64 (.ofNat 0)), (.int .i64 (.ofNat 0)), .nilsl, .nilsl, .nilsl, (.int .i64 (.ofNat 0)), (.int .i64 (.ofNat 0)), (.int .i64 (.ofNat 0)), (.int .i64 (.ofNat 0))] [(0, 1, t0), (1, 1, t1), (2, 1, t31), (3, 5, t54), (8, 7, t63), (15, 1, t65), (16, 3, t69)])) H fun t70 H =>
  pBox t70 H fun t71 H =>
  pC call 92 [t71] H fun _ H =>
  guardA t50 true (pO (aNil t0) H fun t77 H =>
  pFa 11 t77 H fun t78 H =>
  ldK .none H t78 fun t79 H =>
  pNeq t79 (.int .i64 (.ofNat 2)) H fun t80 H =>
  S42_2 call t0 t1 t2 t7 t9 t11 t50 t80 H) (S42_2 call t0 t1 t2 t7 t9 t11 t50 U H)))
noncomputable def S42_4 (call : CallFn) (t0 t1 t2 : AV) (H : AHeap) : R :=
  pC call 86 [t0, t1] H fun t17 H =>
  pLss t2 (.int .i64 (.ofNat 0)) H fun t19 H =>
  guardA t19 false (pO (aLen .sl H t17) H fun t23 H =>
  pGeq t2 t23 H fun t24 H =>
  S42_3 call t0 t1 t2 t17 t19 t24 H) (S42_3 call t0 t1 t2 t17 t19 U H)
noncomputable def S42 : Ff := ⟨fun call l H => argA3 (fun t0 t1 t2 => S42_4 call t0 t1 t2 H) l⟩
/- (*gantline/vm.Machine).Ways -/
noncomputable def S43_0 (call : CallFn) (t0 t1 : AV) (H : AHeap) : R :=
  pC call 86 [t0, t1] H fun t7 H =>
  pO (aLen .sl H t7) H fun t8 H =>
  some (t8, H)
noncomputable def S43 : Ff := ⟨fun call l H => argA2 (fun t0 t1 => S43_0 call t0 t1 H) l⟩
/- (*gantline/vm.Machine).Out -/
noncomputable def S44_0 (call : CallFn) (t0 : AV) (H : AHeap) : R :=
  pO (aNil t0) H fun t4 H =>
  pFa 9 t4 H fun t5 H =>
  ldK .none H t5 fun t6 H =>
  pC call 77 [t6] H fun t7 H =>
  some (t7, H)
noncomputable def S44 : Ff := ⟨fun call l H => argA1 (fun t0 => S44_0 call t0 H) l⟩
/- (*gantline/vm.Machine).Heap -/
noncomputable def S45_0 (_ : CallFn) (t0 : AV) (H : AHeap) : R :=
  pO (aNil t0) H fun t4 H =>
  pFa 6 t4 H fun t5 H =>
  ldK .none H t5 fun t6 H =>
  some (t6, H)
noncomputable def S45 : Ff := ⟨fun call l H => argA1 (fun t0 => S45_0 call t0 H) l⟩
/- (*gantline/heap.Heap).Cycle -/
noncomputable def S46_0 (_ : CallFn) (t0 : AV) (H : AHeap) : R :=
  pO (aNil t0) H fun t4 H =>
  pFa 0 t4 H fun t5 H =>
  ldK .none H t5 fun t6 H =>
  some (t6, H)
noncomputable def S46 : Ff := ⟨fun call l H => argA1 (fun t0 => S46_0 call t0 H) l⟩
/- (*gantline/cycle.Cycle).Done -/
noncomputable def S47_0 (_ : CallFn) (t0 : AV) (H : AHeap) : R :=
  pO (aNil t0) H fun t4 H =>
  pFa 6 t4 H fun t5 H =>
  ldK .none H t5 fun t6 H =>
  some (t6, H)
noncomputable def S47 : Ff := ⟨fun call l H => argA1 (fun t0 => S47_0 call t0 H) l⟩
/- (*gantline/heap.Heap).Forced -/
noncomputable def S48_0 (_ : CallFn) (t0 : AV) (H : AHeap) : R :=
  pO (aNil t0) H fun t4 H =>
  pFa 2 t4 H fun t5 H =>
  ldK .none H t5 fun t6 H =>
  some (t6, H)
noncomputable def S48 : Ff := ⟨fun call l H => argA1 (fun t0 => S48_0 call t0 H) l⟩
/- (*gantline/vm.Machine).Acts -/
noncomputable def S49_0 (call : CallFn) (t0 : AV) (H : AHeap) : R :=
  pO (aNil t0) H fun t4 H =>
  pFa 10 t4 H fun t5 H =>
  ldK .none H t5 fun t6 H =>
  pC call 93 [t6] H fun t7 H =>
  some (t7, H)
noncomputable def S49 : Ff := ⟨fun call l H => argA1 (fun t0 => S49_0 call t0 H) l⟩
/- slices.Equal[[]byte,byte] -/
noncomputable def S50_0 (_ : CallFn) (n : Nat) : AV → AV → AV → AV → AHeap → R :=
  Nat.rec (motive := fun _ => AV → AV → AV → AV → AHeap → R) (fun _ _ _ _ _ => none) (fun _ q0 t0 t1 t12 t13 H => pLss t13 t12 H fun t14 H =>
  onBool t14 (pIa 1 t0 t13 H fun t18 H =>
  ldK .none H t18 fun t19 H =>
  pIa 1 t1 t13 H fun t22 H =>
  ldK .none H t22 fun t23 H =>
  pNeq t19 t23 H fun t24 H =>
  onBool t24 (some ((.bool false), H)) (pAdd t13 (.int .i64 (.ofNat 1)) H fun t25 H =>
  q0 t0 t1 t12 t25 H)) (some ((.bool true), H))) n
noncomputable def S50_1 (call : CallFn) (t0 t1 : AV) (H : AHeap) : R :=
  pO (aLen .sl H t0) H fun t7 H =>
  pO (aLen .sl H t1) H fun t9 H =>
  pNeq t7 t9 H fun t10 H =>
  onBool t10 (some ((.bool false), H)) (pO (aLen .sl H t0) H fun t12 H =>
  S50_0 call 1000000 t0 t1 t12 (.int .i64 (.ofNat 0)) H)
noncomputable def S50 : Ff := ⟨fun call l H => argA2 (fun t0 t1 => S50_1 call t0 t1 H) l⟩
/- gantline/code.list[gantline/head.Shape] -/
noncomputable def S51_0 (call : CallFn) (n : Nat) : AV → AV → AV → AV → AV → AHeap → R :=
  Nat.rec (motive := fun _ => AV → AV → AV → AV → AV → AHeap → R) (fun _ _ _ _ _ _ => none) (fun _ q0 t0 t1 t5 t7 t8 H => pLss t8 t7 H fun t9 H =>
  onBool t9 (pO (aNil t0) H fun t11 H =>
  pFa 1 t11 H fun t12 H =>
  ldK .none H t12 fun t13 H =>
  onBool t13 (some (.nilsl, H)) (pV call t1 [] H fun t16 H =>
  pN (aBsl 3 1 [(.int .i64 (.ofNat 0)), (.int .i64 (.ofNat 0)), (.int .u64 (.ofNat 0))] [(0, 3, t16)]) H fun t17 H =>
  pW (aApp 3 24 H t5 t17) fun t18 H =>
  pAdd t8 (.int .i64 (.ofNat 1)) H fun t19 H =>
  q0 t0 t1 t18 t7 t19 H)) (some (t5, H))) n
noncomputable def S51_1 (call : CallFn) (t0 t1 : AV) (H : AHeap) : R :=
  pC call 94 [t0] H fun t7 H =>
  S51_0 call 1000000 t0 t1 .nilsl t7 (.int .i64 (.ofNat 0)) H
noncomputable def S51 : Ff := ⟨fun call l H => argA2 (fun t0 t1 => S51_1 call t0 t1 H) l⟩
/- (*gantline/code.reader).int -/
noncomputable def S53_0 (call : CallFn) (t0 : AV) (H : AHeap) : R :=
  pC call 54 [t0] H fun t4 H =>
  pC call 59 [t4] H fun t5 H =>
  some (t5, H)
noncomputable def S53 : Ff := ⟨fun call l H => argA1 (fun t0 => S53_0 call t0 H) l⟩
/- (*gantline/code.reader).num -/
noncomputable def S54_0 (_ : CallFn) (t0 t3 t4 : AV) (H : AHeap) : R :=
  pO (aNil t0) H fun t19 H =>
  pFa 1 t19 H fun t20 H =>
  ldK .none H t20 fun t21 H =>
  onBool t21 (some ((.int .u64 (.ofNat 0)), H)) (pO (aNil t0) H fun t24 H =>
  pFa 0 t24 H fun t25 H =>
  ldK .none H t25 fun t26 H =>
  pO (aSlice 1 H t26 (.some t4) .none .none) H fun t28 H =>
  pO (aNil t0) H fun t29 H =>
  pFa 0 t29 H fun t30 H =>
  stK 1 H t30 t28 fun _ H =>
  some (t3, H))
noncomputable def S54_1 (call : CallFn) (t0 : AV) (H : AHeap) : R :=
  pO (aNil t0) H fun t7 H =>
  pFa 0 t7 H fun t8 H =>
  ldK .none H t8 fun t9 H =>
  pC call 95 [t9] H fun t10 H =>
  pExt t10 0 H fun t11 H =>
  pExt t10 1 H fun t12 H =>
  pEql t12 (.int .i64 (.ofNat 0)) H fun t14 H =>
  onBool t14 (pO (aNil t0) H fun t16 H =>
  pFa 1 t16 H fun t17 H =>
  stK 1 H t17 (.bool true) fun _ H =>
  S54_0 call t0 t11 t12 H) (S54_0 call t0 t11 t12 H)
noncomputable def S54 : Ff := ⟨fun call l H => argA1 (fun t0 => S54_1 call t0 H) l⟩
/- gantline/code.list[bool] -/
noncomputable def S55_0 (call : CallFn) (n : Nat) : AV → AV → AV → AV → AV → AHeap → R :=
  Nat.rec (motive := fun _ => AV → AV → AV → AV → AV → AHeap → R) (fun _ _ _ _ _ _ => none) (fun _ q0 t0 t1 t5 t7 t8 H => pLss t8 t7 H fun t9 H =>
  onBool t9 (pO (aNil t0) H fun t11 H =>
  pFa 1 t11 H fun t12 H =>
  ldK .none H t12 fun t13 H =>
  onBool t13 (some (.nilsl, H)) (pV call t1 [] H fun t16 H =>
  pN (aBsl 1 1 [(.bool false)] [(0, 1, t16)]) H fun t17 H =>
  pW (aApp 1 1 H t5 t17) fun t18 H =>
  pAdd t8 (.int .i64 (.ofNat 1)) H fun t19 H =>
  q0 t0 t1 t18 t7 t19 H)) (some (t5, H))) n
noncomputable def S55_1 (call : CallFn) (t0 t1 : AV) (H : AHeap) : R :=
  pC call 94 [t0] H fun t7 H =>
  S55_0 call 1000000 t0 t1 .nilsl t7 (.int .i64 (.ofNat 0)) H
noncomputable def S55 : Ff := ⟨fun call l H => argA2 (fun t0 t1 => S55_1 call t0 t1 H) l⟩
/- (*gantline/code.reader).flag -/
noncomputable def S56_0 (_ : CallFn) (t3 t6 t11 t13 : AV) (H : AHeap) : R :=
  pPick t11 (.bool true) t13 H fun t14 H =>
  pO (aNil t6) H fun t15 H =>
  pFa 1 t15 H fun t16 H =>
  stK 1 H t16 t14 fun _ H =>
  pEql t3 (.int .u64 (.ofNat 1)) H fun t18 H =>
  some (t18, H)
noncomputable def S56_1 (call : CallFn) (t0 : AV) (H : AHeap) : R :=
  pC call 54 [t0] H fun t5 H =>
  pO (aNil t0) H fun t8 H =>
  pFa 1 t8 H fun t9 H =>
  ldK .none H t9 fun t10 H =>
  guardA t10 false (pGtr t5 (.int .u64 (.ofNat 1)) H fun t13 H =>
  S56_0 call t5 t0 t10 t13 H) (S56_0 call t5 t0 t10 U H)
noncomputable def S56 : Ff := ⟨fun call l H => argA1 (fun t0 => S56_1 call t0 H) l⟩
/- gantline/code.list[int64] -/
noncomputable def S57_0 (call : CallFn) (n : Nat) : AV → AV → AV → AV → AV → AHeap → R :=
  Nat.rec (motive := fun _ => AV → AV → AV → AV → AV → AHeap → R) (fun _ _ _ _ _ _ => none) (fun _ q0 t0 t1 t5 t7 t8 H => pLss t8 t7 H fun t9 H =>
  onBool t9 (pO (aNil t0) H fun t11 H =>
  pFa 1 t11 H fun t12 H =>
  ldK .none H t12 fun t13 H =>
  onBool t13 (some (.nilsl, H)) (pV call t1 [] H fun t16 H =>
  pN (aBsl 1 1 [(.int .i64 (.ofNat 0))] [(0, 1, t16)]) H fun t17 H =>
  pW (aApp 1 8 H t5 t17) fun t18 H =>
  pAdd t8 (.int .i64 (.ofNat 1)) H fun t19 H =>
  q0 t0 t1 t18 t7 t19 H)) (some (t5, H))) n
noncomputable def S57_1 (call : CallFn) (t0 t1 : AV) (H : AHeap) : R :=
  pC call 94 [t0] H fun t7 H =>
  S57_0 call 1000000 t0 t1 .nilsl t7 (.int .i64 (.ofNat 0)) H
noncomputable def S57 : Ff := ⟨fun call l H => argA2 (fun t0 t1 => S57_1 call t0 t1 H) l⟩
/- gantline/code.Decode$2 -/
noncomputable def S58_0 (call : CallFn) (t0 : AV) (H : AHeap) : R :=
  ldK .none H t0 fun t2 H =>
  pC call 54 [t2] H fun t3 H =>
  pC call 59 [t3] H fun t4 H =>
  some (t4, H)
noncomputable def S58 : Ff := ⟨fun call l H => argA1 (fun t0 => S58_0 call t0 H) l⟩
/- gantline/bits.Zag -/
noncomputable def S59_0 (_ : CallFn) (t0 : AV) (H : AHeap) : R :=
  pO (aBin .shr t0 (.int .u64 (.ofNat 1))) H fun t4 H =>
  pConv .i64 t4 H fun t5 H =>
  pAnd t0 (.int .u64 (.ofNat 1)) H fun t7 H =>
  pConv .i64 t7 H fun t8 H =>
  pO (aUn .neg t8) H fun t9 H =>
  pXor t5 t9 H fun t10 H =>
  some (t10, H)
noncomputable def S59 : Ff := ⟨fun call l H => argA1 (fun t0 => S59_0 call t0 H) l⟩
/- gantline/code.list[gantline/code.Case] -/
noncomputable def S60_0 (call : CallFn) (n : Nat) : AV → AV → AV → AV → AV → AHeap → R :=
  Nat.rec (motive := fun _ => AV → AV → AV → AV → AV → AHeap → R) (fun _ _ _ _ _ _ => none) (fun _ q0 t0 t1 t5 t7 t8 H => pLss t8 t7 H fun t9 H =>
  onBool t9 (pO (aNil t0) H fun t11 H =>
  pFa 1 t11 H fun t12 H =>
  ldK .none H t12 fun t13 H =>
  onBool t13 (some (.nilsl, H)) (pV call t1 [] H fun t16 H =>
  pN (aBsl 4 1 [(.int .i64 (.ofNat 0)), (.int .i64 (.ofNat 0)), (.int .i64 (.ofNat 0)), (.int .i64 (.ofNat 0))] [(0, 4, t16)]) H fun t17 H =>
  pW (aApp 4 32 H t5 t17) fun t18 H =>
  pAdd t8 (.int .i64 (.ofNat 1)) H fun t19 H =>
  q0 t0 t1 t18 t7 t19 H)) (some (t5, H))) n
noncomputable def S60_1 (call : CallFn) (t0 t1 : AV) (H : AHeap) : R :=
  pC call 94 [t0] H fun t7 H =>
  S60_0 call 1000000 t0 t1 .nilsl t7 (.int .i64 (.ofNat 0)) H
noncomputable def S60 : Ff := ⟨fun call l H => argA2 (fun t0 t1 => S60_1 call t0 t1 H) l⟩
/- gantline/code.list[gantline/code.Func] -/
noncomputable def S62_0 (call : CallFn) (n : Nat) : AV → AV → AV → AV → AV → AHeap → R :=
  Nat.rec (motive := fun _ => AV → AV → AV → AV → AV → AHeap → R) (fun _ _ _ _ _ _ => none) (fun _ q0 t0 t1 t5 t7 t8 H => pLss t8 t7 H fun t9 H =>
  onBool t9 (pO (aNil t0) H fun t11 H =>
  pFa 1 t11 H fun t12 H =>
  ldK .none H t12 fun t13 H =>
  onBool t13 (some (.nilsl, H)) (pV call t1 [] H fun t16 H =>
  pN (aBsl 7 1 [(.int .i64 (.ofNat 0)), (.int .i64 (.ofNat 0)), (.int .i64 (.ofNat 0)), (.int .i64 (.ofNat 0)), .nilsl, .nilsl, .nilsl] [(0, 7, t16)]) H fun t17 H =>
  pW (aApp 7 104 H t5 t17) fun t18 H =>
  pAdd t8 (.int .i64 (.ofNat 1)) H fun t19 H =>
  q0 t0 t1 t18 t7 t19 H)) (some (t5, H))) n
noncomputable def S62_1 (call : CallFn) (t0 t1 : AV) (H : AHeap) : R :=
  pC call 94 [t0] H fun t7 H =>
  S62_0 call 1000000 t0 t1 .nilsl t7 (.int .i64 (.ofNat 0)) H
noncomputable def S62 : Ff := ⟨fun call l H => argA2 (fun t0 t1 => S62_1 call t0 t1 H) l⟩
/- (*gantline/code.reader).fn -/
noncomputable def S63_0 (call : CallFn) (t0 : AV) (H : AHeap) : R :=
  pBox t0 H fun t1 H =>
  pNew [(.int .i64 (.ofNat 0)), (.int .i64 (.ofNat 0)), (.int .i64 (.ofNat 0)), (.int .i64 (.ofNat 0)), .nilsl, .nilsl, .nilsl] H fun t2 H =>
  ldK .none H t1 fun t4 H =>
  ldK .none H t1 fun t6 H =>
  ldK .none H t1 fun t8 H =>
  ldK .none H t1 fun t10 H =>
  pNew [(.int .i64 (.ofNat 0)), (.int .i64 (.ofNat 0)), (.int .i64 (.ofNat 0)), (.int .i64 (.ofNat 0)), .nilsl, .nilsl, .nilsl] H fun t3 H =>
  pC call 53 [t4] H fun t5 H =>
  andR (andB (ckV (aLoad .none H t1) t6) (andB (ckV (aLoad .none H t1) t8) (andB (ckV (aLoad .none H t1) t10) true))) (
  pC call 53 [t6] H fun t7 H =>
  andR (andB (ckV (aLoad .none H t1) t8) (andB (ckV (aLoad .none H t1) t10) true)) (
  pC call 53 [t8] H fun t9 H =>
  andR (andB (ckV (aLoad .none H t1) t10) true) (
  pC call 53 [t10] H fun t11 H =>
  pO (someAgg (aFill [(.int .i64 (.ofNat 0)), (.int .i64 (.ofNat 0)), (.int .i64 (.ofNat 0)), (.int .i64 (.ofNat 0)), .nilsl, .nilsl, .nilsl] [(0, 1, t5), (1, 1, t7), (2, 1, t9), (3, 1, t11)])) H fun t12 H =>
  stK 7 H t3 t12 fun _ H =>
  ldK .none H t1 fun t13 H =>
  ldK .none H t1 fun t14 H =>
  pC call 55 [t13, (.fn 56 [t14] [])] H fun t16 H =>
  pFa 4 t3 H fun t17 H =>
  stK 1 H t17 t16 fun _ H =>
  ldK .none H t1 fun t18 H =>
  pC call 96 [t18, (.fn 97 [] [t1])] H fun t20 H =>
  pFa 5 t3 H fun t21 H =>
  stK 1 H t21 t20 fun _ H =>
  ldK .none H t1 fun t22 H =>
  ldK .none H t1 fun t23 H =>
  pC call 98 [t22, (.fn 54 [t23] [])] H fun t25 H =>
  pFa 6 t3 H fun t26 H =>
  stK 1 H t26 t25 fun _ H =>
  ldK (.some 7) H t3 fun t27 H =>
  stK 7 H t2 t27 fun _ H =>
  ob (allM (fun o => o) [aLoad (.some 7) H t2]) fun vs => some (resV vs, H))))
noncomputable def S63 : Ff := ⟨fun call l H => argA1 (fun t0 => S63_0 call t0 H) l⟩
/- (*gantline/run.follower).do -/
noncomputable def S64_0 (call : CallFn) (n : Nat) : AV → AV → AV → AHeap → R :=
  Nat.rec (motive := fun _ => AV → AV → AV → AHeap → R) (fun _ _ _ _ => none) (fun _ q0 t0 t42 t43 H => pLss t43 t42 H fun t44 H =>
  onBool t44 (pO (aNil t0) H fun t46 H =>
  pFa 0 t46 H fun t47 H =>
  ldK .none H t47 fun t48 H =>
  pC call 41 [t48] H fun _ H =>
  pAdd t43 (.int .i64 (.ofNat 1)) H fun t50 H =>
  q0 t0 t42 t50 H) (some ((.bool true), H))) n
noncomputable def S64_1 (call : CallFn) (t0 t1 t2 t7 t16 t21 : AV) (H : AHeap) : R :=
  pPick t16 (.bool true) t21 H fun t22 H =>
  onBool t22 (some ((.bool false), H)) (pO (aNil t0) H fun t24 H =>
  pFa 0 t24 H fun t25 H =>
  ldK .none H t25 fun t26 H =>
  pO (aBin .rem t2 t7) H fun t30 H =>
  pC call 42 [t26, t1, t30] H fun _ H =>
  pO (aNil t0) H fun t33 H =>
  pFa 2 t33 H fun t34 H =>
  ldK .none H t34 fun t35 H =>
  pAdd t35 (.int .i64 (.ofNat 1)) H fun t36 H =>
  pO (aNil t0) H fun t37 H =>
  pFa 2 t37 H fun t38 H =>
  stK 1 H t38 t36 fun _ H =>
  pO (aNil t0) H fun t40 H =>
  pFa 1 t40 H fun t41 H =>
  ldK .none H t41 fun t42 H =>
  S64_0 call 1000000 t0 t42 (.int .i64 (.ofNat 0)) H)
noncomputable def S64_2 (call : CallFn) (t0 t1 t2 : AV) (H : AHeap) : R :=
  pO (aNil t0) H fun t9 H =>
  pFa 0 t9 H fun t10 H =>
  ldK .none H t10 fun t11 H =>
  pC call 43 [t11, t1] H fun t13 H =>
  pEql t13 (.int .i64 (.ofNat 0)) H fun t15 H =>
  guardA t15 false (pO (aNil t0) H fun t18 H =>
  pFa 2 t18 H fun t19 H =>
  ldK .none H t19 fun t20 H =>
  pGeq t20 (.int .i64 (.ofNat 100000)) H fun t21 H =>
  S64_1 call t0 t1 t2 t13 t15 t21 H) (S64_1 call t0 t1 t2 t13 t15 U H)
noncomputable def S64 : Ff := ⟨fun call l H => argA3 (fun t0 t1 t2 => S64_2 call t0 t1 t2 H) l⟩
/- gantline/live.Sets$1 -/
noncomputable def S65_0 (_ : CallFn) (n : Nat) : AV → AV → AV → AV → AV → AHeap → R :=
  Nat.rec (motive := fun _ => AV → AV → AV → AV → AV → AHeap → R) (fun _ _ _ _ _ _ => none) (fun _ q0 t3 t6 t64 t65 t66 H => pLss t66 t65 H fun t67 H =>
  onBool t67 (pIa 1 t64 t66 H fun t68 H =>
  ldK .none H t68 fun t69 H =>
  ldK .none H t3 fun t71 H =>
  pIa 1 t71 t69 H fun t73 H =>
  ldK .none H t73 fun t74 H =>
  pOr t6 t74 H fun t75 H =>
  pAdd t66 (.int .i64 (.ofNat 1)) H fun t76 H =>
  q0 t3 t75 t64 t65 t76 H) (some (t6, H))) n
noncomputable def S65_1 (call : CallFn) (t0 t1 t2 t3 t6 : AV) (H : AHeap) : R :=
  ldK (.some 6) H t2 fun t61 H =>
  ldK (.some 7) H t1 fun t62 H =>
  pC call 68 [t61, t62, t0] H fun t64 H =>
  pO (aLen .sl H t64) H fun t65 H =>
  S65_0 call 1000000 t3 t6 t64 t65 (.int .i64 (.ofNat 0)) H
noncomputable def S65_3 (_ : CallFn) (q1 : AV → AV → AV → AV → AV → AV → AHeap → R) (t1 t3 t6 t23 t24 t25 : AV) (H : AHeap) : R :=
  pAdd t25 (.int .i64 (.ofNat 1)) H fun t59 H =>
  q1 t1 t3 t6 t23 t24 t59 H
noncomputable def S65_4 (call : CallFn) (q1 : AV → AV → AV → AV → AV → AV → AHeap → R) (t1 t3 t6 t9 t23 t24 t25 t32 t38 : AV) (H : AHeap) : R :=
  pPick t32 (.bool true) t38 H fun t39 H =>
  onBool t39 (S65_3 call q1 t1 t3 t6 t23 t24 t25 H) (ldK .none H t3 fun t40 H =>
  pFa 3 t9 H fun t41 H =>
  ldK .none H t41 fun t42 H =>
  pIa 1 t40 t42 H fun t43 H =>
  ldK .none H t43 fun t44 H =>
  pFa 0 t9 H fun t45 H =>
  ldK .none H t45 fun t46 H =>
  pEql t46 (.int .i64 (.ofNat 0)) H fun t47 H =>
  onBool t47 (pFa 2 t9 H fun t50 H =>
  ldK .none H t50 fun t51 H =>
  pN (aBsl 1 1 [(.int .i64 (.ofNat 0))] [(0, 1, t51)]) H fun t52 H =>
  pC call 67 [t52] H fun t53 H =>
  pAndN t44 t53 H fun t54 H =>
  pOr t6 t54 H fun t55 H =>
  S65_3 call q1 t1 t3 t55 t23 t24 t25 H) (pOr t6 t44 H fun t58 H =>
  S65_3 call q1 t1 t3 t58 t23 t24 t25 H))
noncomputable def S65_2 (call : CallFn) (n : Nat) : AV → AV → AV → AV → AV → AV → AHeap → R :=
  Nat.rec (motive := fun _ => AV → AV → AV → AV → AV → AV → AHeap → R) (fun _ _ _ _ _ _ _ => none) (fun _ q1 t1 t3 t6 t23 t24 t25 H => pLss t25 t24 H fun t26 H =>
  onBool t26 (pIa 4 t23 t25 H fun t27 H =>
  ldK (.some 4) H t27 fun t28 H =>
  pNew [(.int .i64 (.ofNat 0)), (.int .i64 (.ofNat 0)), (.int .i64 (.ofNat 0)), (.int .i64 (.ofNat 0))] H fun t9 H =>
  stK 4 H t9 t28 fun _ H =>
  pFa 3 t9 H fun t29 H =>
  ldK .none H t29 fun t30 H =>
  pLss t30 (.int .i64 (.ofNat 0)) H fun t31 H =>
  guardA t31 false (pFa 3 t9 H fun t33 H =>
  ldK .none H t33 fun t34 H =>
  pFa 5 t1 H fun t35 H =>
  ldK .none H t35 fun t36 H =>
  pO (aLen .sl H t36) H fun t37 H =>
  pGeq t34 t37 H fun t38 H =>
  S65_4 call q1 t1 t3 t6 t9 t23 t24 t25 t31 t38 H) (S65_4 call q1 t1 t3 t6 t9 t23 t24 t25 t31 U H)) (some (t6, H))) n
noncomputable def S65_5 (call : CallFn) (t0 t1 t2 t3 : AV) (H : AHeap) : R :=
  pFa 5 t1 H fun t13 H =>
  ldK .none H t13 fun t14 H =>
  pIa 5 t14 t0 H fun t16 H =>
  ldK (.some 5) H t16 fun t17 H =>
  pNew [(.int .i64 (.ofNat 0)), (.int .i64 (.ofNat 0)), (.int .i64 (.ofNat 0)), (.int .i64 (.ofNat 0)), (.int .i64 (.ofNat 0))] H fun t7 H =>
  stK 5 H t7 t17 fun _ H =>
  pFa 0 t7 H fun t18 H =>
  ldK .none H t18 fun t19 H =>
  pEql t19 (.int .i64 (.ofNat 41)) H fun t20 H =>
  onBool t20 (ldK (.some 6) H t2 fun t21 H =>
  ldK (.some 5) H t7 fun t22 H =>
  pC call 66 [t21, t22] H fun t23 H =>
  pO (aLen .sl H t23) H fun t24 H =>
  S65_2 call 1000000 t1 t3 (.int .u64 (.ofNat 0)) t23 t24 (.int .i64 (.ofNat 0)) H) (S65_1 call t0 t1 t2 t3 (.int .u64 (.ofNat 0)) H)
noncomputable def S65 : Ff := ⟨fun call l H => argA4 (fun t0 t1 t2 t3 => S65_5 call t0 t1 t2 t3 H) l⟩
/- gantline/live.cases -/
noncomputable def S66_0 (_ : CallFn) (t2 t3 t21 t30 : AV) (H : AHeap) : R :=
  pPick t21 (.bool true) t30 H fun t31 H =>
  onBool t31 (some (.nilsl, H)) (pFa 3 t2 H fun t32 H =>
  ldK .none H t32 fun t33 H =>
  pFa 1 t3 H fun t34 H =>
  ldK .none H t34 fun t35 H =>
  pFa 1 t3 H fun t36 H =>
  ldK .none H t36 fun t37 H =>
  pFa 2 t3 H fun t38 H =>
  ldK .none H t38 fun t39 H =>
  pAdd t37 t39 H fun t40 H =>
  pO (aSlice 4 H t33 (.some t35) (.some t40) .none) H fun t41 H =>
  some (t41, H))
noncomputable def S66_1 (call : CallFn) (t2 t3 t13 t19 : AV) (H : AHeap) : R :=
  pPick t13 (.bool true) t19 H fun t20 H =>
  guardA t20 false (pFa 2 t3 H fun t22 H =>
  ldK .none H t22 fun t23 H =>
  pFa 3 t2 H fun t24 H =>
  ldK .none H t24 fun t25 H =>
  pO (aLen .sl H t25) H fun t26 H =>
  pFa 1 t3 H fun t27 H =>
  ldK .none H t27 fun t28 H =>
  pSub t26 t28 H fun t29 H =>
  pGtr t23 t29 H fun t30 H =>
  S66_0 call t2 t3 t20 t30 H) (S66_0 call t2 t3 t20 U H)
noncomputable def S66_2 (call : CallFn) (t2 t3 t8 t11 : AV) (H : AHeap) : R :=
  pPick t8 (.bool true) t11 H fun t12 H =>
  guardA t12 false (pFa 1 t3 H fun t14 H =>
  ldK .none H t14 fun t15 H =>
  pFa 3 t2 H fun t16 H =>
  ldK .none H t16 fun t17 H =>
  pO (aLen .sl H t17) H fun t18 H =>
  pGtr t15 t18 H fun t19 H =>
  S66_1 call t2 t3 t12 t19 H) (S66_1 call t2 t3 t12 U H)
noncomputable def S66_3 (call : CallFn) (t0 t1 : AV) (H : AHeap) : R :=
  pBox t0 H fun t2 H =>
  pBox t1 H fun t3 H =>
  pFa 1 t3 H fun t5 H =>
  ldK .none H t5 fun t6 H =>
  pLss t6 (.int .i64 (.ofNat 0)) H fun t7 H =>
  guardA t7 false (pFa 2 t3 H fun t9 H =>
  ldK .none H t9 fun t10 H =>
  pLss t10 (.int .i64 (.ofNat 0)) H fun t11 H =>
  S66_2 call t2 t3 t7 t11 H) (S66_2 call t2 t3 t7 U H)
noncomputable def S66 : Ff := ⟨fun call l H => argA2 (fun t0 t1 => S66_3 call t0 t1 H) l⟩
/- gantline/live.bitsOf -/
noncomputable def S67_1 (_ : CallFn) (q0 : AV → AV → AV → AV → AHeap → R) (t3 t6 t7 t8 : AV) (H : AHeap) : R :=
  pAdd t8 (.int .i64 (.ofNat 1)) H fun t23 H =>
  q0 t3 t6 t7 t23 H
noncomputable def S67_2 (call : CallFn) (q0 : AV → AV → AV → AV → AHeap → R) (t3 t5 t6 t7 t8 t14 t16 : AV) (H : AHeap) : R :=
  pPick t14 t16 (.bool false) H fun t17 H =>
  onBool t17 (pConv .u64 t5 H fun t20 H =>
  pO (aBin .shl (.int .u64 (.ofNat 1)) t20) H fun t21 H =>
  pOr t3 t21 H fun t22 H =>
  S67_1 call q0 t22 t6 t7 t8 H) (S67_1 call q0 t3 t6 t7 t8 H)
noncomputable def S67_0 (call : CallFn) (n : Nat) : AV → AV → AV → AV → AHeap → R :=
  Nat.rec (motive := fun _ => AV → AV → AV → AV → AHeap → R) (fun _ _ _ _ _ => none) (fun _ q0 t3 t6 t7 t8 H => pLss t8 t7 H fun t9 H =>
  onBool t9 (pIa 1 t6 t8 H fun t10 H =>
  ldK .none H t10 fun t11 H =>
  pGeq t11 (.int .i64 (.ofNat 0)) H fun t13 H =>
  guardA t13 true (pLss t11 (.int .i64 (.ofNat 64)) H fun t16 H =>
  S67_2 call q0 t3 t11 t6 t7 t8 t13 t16 H) (S67_2 call q0 t3 t11 t6 t7 t8 t13 U H)) (some (t3, H))) n
noncomputable def S67_3 (call : CallFn) (t0 : AV) (H : AHeap) : R :=
  pO (aLen .sl H t0) H fun t7 H =>
  S67_0 call 1000000 (.int .u64 (.ofNat 0)) t0 t7 (.int .i64 (.ofNat 0)) H
noncomputable def S67 : Ff := ⟨fun call l H => argA1 (fun t0 => S67_3 call t0 H) l⟩
/- gantline/live.Follows -/
noncomputable def S68_0 (call : CallFn) (t4 t7 : AV) (H : AHeap) : R :=
  pC call 99 [t7, (.fn 100 [] [t4])] H fun t63 H =>
  pC call 101 [t63] H fun _ H =>
  pC call 102 [t63] H fun t67 H =>
  some (t67, H)
noncomputable def S68_1 (call : CallFn) (n : Nat) : AV → AV → AV → AV → AV → AHeap → R :=
  Nat.rec (motive := fun _ => AV → AV → AV → AV → AV → AHeap → R) (fun _ _ _ _ _ _ => none) (fun _ q0 t4 t7 t49 t50 t51 H => pLss t51 t50 H fun t52 H =>
  onBool t52 (pIa 4 t49 t51 H fun t53 H =>
  ldK (.some 4) H t53 fun t54 H =>
  pNew [(.int .i64 (.ofNat 0)), (.int .i64 (.ofNat 0)), (.int .i64 (.ofNat 0)), (.int .i64 (.ofNat 0))] H fun t10 H =>
  stK 4 H t10 t54 fun _ H =>
  pFa 3 t10 H fun t56 H =>
  ldK .none H t56 fun t57 H =>
  pN (aBsl 1 1 [(.int .i64 (.ofNat 0))] [(0, 1, t57)]) H fun t58 H =>
  pW (aApp 1 8 H t7 t58) fun t59 H =>
  pAdd t51 (.int .i64 (.ofNat 1)) H fun t60 H =>
  q0 t4 t59 t49 t50 t60 H) (S68_0 call t4 t7 H)) n
noncomputable def S68_2 (call : CallFn) (t2 t3 t4 t7 t8 t26 t42 : AV) (H : AHeap) : R :=
  onBool t42 (S68_0 call t4 t7 H) (pEql t26 (.int .i64 (.ofNat 41)) H fun t46 H =>
  onBool t46 (ldK (.some 6) H t3 fun t47 H =>
  ldK (.some 5) H t8 fun t48 H =>
  pC call 66 [t47, t48] H fun t49 H =>
  pO (aLen .sl H t49) H fun t50 H =>
  S68_1 call 1000000 t4 t7 t49 t50 (.int .i64 (.ofNat 0)) H) (pAdd t2 (.int .i64 (.ofNat 1)) H fun t28 H =>
  pN (aBsl 1 1 [(.int .i64 (.ofNat 0))] [(0, 1, t28)]) H fun t29 H =>
  S68_0 call t4 t29 H))
noncomputable def S68_3 (call : CallFn) (t2 t3 t4 t13 t18 : AV) (H : AHeap) : R :=
  pPick t13 (.bool true) t18 H fun t19 H =>
  onBool t19 (some (.nilsl, H)) (pFa 5 t4 H fun t20 H =>
  ldK .none H t20 fun t21 H =>
  pIa 5 t21 t2 H fun t23 H =>
  ldK (.some 5) H t23 fun t24 H =>
  pNew [(.int .i64 (.ofNat 0)), (.int .i64 (.ofNat 0)), (.int .i64 (.ofNat 0)), (.int .i64 (.ofNat 0)), (.int .i64 (.ofNat 0))] H fun t8 H =>
  stK 5 H t8 t24 fun _ H =>
  pFa 0 t8 H fun t25 H =>
  ldK .none H t25 fun t26 H =>
  pEql t26 (.int .i64 (.ofNat 18)) H fun t31 H =>
  onBool t31 (pFa 1 t8 H fun t32 H =>
  ldK .none H t32 fun t33 H =>
  pN (aBsl 1 1 [(.int .i64 (.ofNat 0))] [(0, 1, t33)]) H fun t34 H =>
  S68_0 call t4 t34 H) (pEql t26 (.int .i64 (.ofNat 19)) H fun t36 H =>
  onBool t36 (pFa 2 t8 H fun t37 H =>
  ldK .none H t37 fun t38 H =>
  pAdd t2 (.int .i64 (.ofNat 1)) H fun t40 H =>
  pN (aBsl 1 2 [(.int .i64 (.ofNat 0))] [(0, 1, t38), (1, 1, t40)]) H fun t41 H =>
  S68_0 call t4 t41 H) (pEql t26 (.int .i64 (.ofNat 22)) H fun t43 H =>
  onBool t43 (S68_2 call t2 t3 t4 .nilsl t8 t26 t43 H) (pEql t26 (.int .i64 (.ofNat 44)) H fun t44 H =>
  S68_2 call t2 t3 t4 .nilsl t8 t26 t44 H))))
noncomputable def S68_4 (call : CallFn) (t0 t1 t2 : AV) (H : AHeap) : R :=
  pBox t0 H fun t3 H =>
  pBox t1 H fun t4 H =>
  pLss t2 (.int .i64 (.ofNat 0)) H fun t12 H =>
  guardA t12 false (pFa 5 t4 H fun t15 H =>
  ldK .none H t15 fun t16 H =>
  pO (aLen .sl H t16) H fun t17 H =>
  pGeq t2 t17 H fun t18 H =>
  S68_3 call t2 t3 t4 t12 t18 H) (S68_3 call t2 t3 t4 t12 U H)
noncomputable def S68 : Ff := ⟨fun call l H => argA3 (fun t0 t1 t2 => S68_4 call t0 t1 t2 H) l⟩
/- gantline/live.Reads -/
noncomputable def S69_0 (call : CallFn) (t2 t3 t5 t142 t144 : AV) (H : AHeap) : R :=
  pPick t142 (.bool true) t144 H fun t145 H =>
  onBool t145 (pFa 1 t3 H fun t146 H =>
  ldK .none H t146 fun t147 H =>
  pFa 2 t3 H fun t148 H =>
  ldK .none H t148 fun t149 H =>
  pFa 3 t3 H fun t150 H =>
  ldK .none H t150 fun t151 H =>
  pN (aBsl 1 3 [(.int .i64 (.ofNat 0))] [(0, 1, t147), (1, 1, t149), (2, 1, t151)]) H fun t152 H =>
  some (t152, H)) (pEql t5 (.int .i64 (.ofNat 36)) H fun t155 H =>
  onBool t155 (pFa 3 t3 H fun t156 H =>
  ldK .none H t156 fun t157 H =>
  ldK (.some 6) H t2 fun t158 H =>
  pFa 2 t3 H fun t159 H =>
  ldK .none H t159 fun t160 H =>
  pC call 104 [t158, t160] H fun t161 H =>
  andR (andB (ckV (aLoad .none H t156) t157) true) (
  pO (aFld 1 .none t161) H fun t162 H =>
  pC call 103 [t157, t162] H fun t163 H =>
  some (t163, H))) (pEql t5 (.int .i64 (.ofNat 38)) H fun t166 H =>
  onBool t166 (pFa 1 t3 H fun t167 H =>
  ldK .none H t167 fun t168 H =>
  pFa 2 t3 H fun t169 H =>
  ldK .none H t169 fun t170 H =>
  pN (aBsl 1 2 [(.int .i64 (.ofNat 0))] [(0, 1, t168), (1, 1, t170)]) H fun t171 H =>
  some (t171, H)) (pEql t5 (.int .i64 (.ofNat 41)) H fun t174 H =>
  onBool t174 (ldK (.some 6) H t2 fun t175 H =>
  ldK (.some 5) H t3 fun t176 H =>
  pC call 66 [t175, t176] H fun t177 H =>
  pC call 106 [t177] H fun t178 H =>
  some (t178, H)) (some (.nilsl, H)))))
noncomputable def S69_1 (call : CallFn) (t2 t3 t5 t130 t132 : AV) (H : AHeap) : R :=
  pPick t130 (.bool true) t132 H fun t133 H =>
  onBool t133 (pFa 1 t3 H fun t134 H =>
  ldK .none H t134 fun t135 H =>
  pFa 3 t3 H fun t136 H =>
  ldK .none H t136 fun t137 H =>
  pN (aBsl 1 2 [(.int .i64 (.ofNat 0))] [(0, 1, t135), (1, 1, t137)]) H fun t138 H =>
  some (t138, H)) (pEql t5 (.int .i64 (.ofNat 31)) H fun t141 H =>
  guardA t141 false (pEql t5 (.int .i64 (.ofNat 32)) H fun t144 H =>
  S69_0 call t2 t3 t5 t141 t144 H) (S69_0 call t2 t3 t5 t141 U H))
noncomputable def S69_2 (call : CallFn) (t2 t3 t5 t120 t122 : AV) (H : AHeap) : R :=
  pPick t120 (.bool true) t122 H fun t123 H =>
  onBool t123 (pFa 3 t3 H fun t124 H =>
  ldK .none H t124 fun t125 H =>
  pN (aBsl 1 1 [(.int .i64 (.ofNat 0))] [(0, 1, t125)]) H fun t126 H =>
  some (t126, H)) (pEql t5 (.int .i64 (.ofNat 28)) H fun t129 H =>
  guardA t129 false (pEql t5 (.int .i64 (.ofNat 29)) H fun t132 H =>
  S69_1 call t2 t3 t5 t129 t132 H) (S69_1 call t2 t3 t5 t129 U H))
noncomputable def S69_3 (call : CallFn) (t2 t3 t5 t57 t59 : AV) (H : AHeap) : R :=
  pPick t57 (.bool true) t59 H fun t60 H =>
  onBool t60 (pFa 1 t3 H fun t61 H =>
  ldK .none H t61 fun t62 H =>
  pN (aBsl 1 1 [(.int .i64 (.ofNat 0))] [(0, 1, t62)]) H fun t63 H =>
  some (t63, H)) (pEql t5 (.int .i64 (.ofNat 20)) H fun t66 H =>
  onBool t66 (pFa 3 t3 H fun t67 H =>
  ldK .none H t67 fun t68 H =>
  ldK (.some 6) H t2 fun t69 H =>
  pFa 2 t3 H fun t70 H =>
  ldK .none H t70 fun t71 H =>
  pC call 104 [t69, t71] H fun t72 H =>
  andR (andB (ckV (aLoad .none H t67) t68) true) (
  pO (aFld 0 .none t72) H fun t73 H =>
  pC call 103 [t68, t73] H fun t74 H =>
  some (t74, H))) (pEql t5 (.int .i64 (.ofNat 21)) H fun t77 H =>
  onBool t77 (pFa 2 t3 H fun t78 H =>
  ldK .none H t78 fun t79 H =>
  pN (aBsl 1 1 [(.int .i64 (.ofNat 0))] [(0, 1, t79)]) H fun t80 H =>
  pFa 3 t3 H fun t81 H =>
  ldK .none H t81 fun t82 H =>
  pFa 4 t3 H fun t83 H =>
  ldK .none H t83 fun t84 H =>
  pC call 103 [t82, t84] H fun t85 H =>
  andR (andB (ckV (aLoad .none H t78) t79) true) (
  pW (aApp 1 8 H t80 t85) fun t86 H =>
  some (t86, H))) (pEql t5 (.int .i64 (.ofNat 22)) H fun t89 H =>
  onBool t89 (pFa 1 t3 H fun t90 H =>
  ldK .none H t90 fun t91 H =>
  pN (aBsl 1 1 [(.int .i64 (.ofNat 0))] [(0, 1, t91)]) H fun t92 H =>
  pC call 105 [t92] H fun t93 H =>
  some (t93, H)) (pEql t5 (.int .i64 (.ofNat 23)) H fun t96 H =>
  onBool t96 (pFa 2 t3 H fun t97 H =>
  ldK .none H t97 fun t98 H =>
  ldK (.some 6) H t2 fun t99 H =>
  pFa 1 t3 H fun t100 H =>
  ldK .none H t100 fun t101 H =>
  pC call 104 [t99, t101] H fun t102 H =>
  andR (andB (ckV (aLoad .none H t97) t98) true) (
  pO (aFld 0 .none t102) H fun t103 H =>
  pC call 103 [t98, t103] H fun t104 H =>
  some (t104, H))) (pEql t5 (.int .i64 (.ofNat 24)) H fun t107 H =>
  onBool t107 (pFa 1 t3 H fun t108 H =>
  ldK .none H t108 fun t109 H =>
  pN (aBsl 1 1 [(.int .i64 (.ofNat 0))] [(0, 1, t109)]) H fun t110 H =>
  pFa 2 t3 H fun t111 H =>
  ldK .none H t111 fun t112 H =>
  pFa 3 t3 H fun t113 H =>
  ldK .none H t113 fun t114 H =>
  pC call 103 [t112, t114] H fun t115 H =>
  andR (andB (ckV (aLoad .none H t108) t109) true) (
  pW (aApp 1 8 H t110 t115) fun t116 H =>
  some (t116, H))) (pEql t5 (.int .i64 (.ofNat 26)) H fun t119 H =>
  guardA t119 false (pEql t5 (.int .i64 (.ofNat 37)) H fun t122 H =>
  S69_2 call t2 t3 t5 t119 t122 H) (S69_2 call t2 t3 t5 t119 U H)))))))
noncomputable def S69_4 (call : CallFn) (t2 t3 t5 t53 t55 : AV) (H : AHeap) : R :=
  pPick t53 (.bool true) t55 H fun t56 H =>
  guardA t56 false (pEql t5 (.int .i64 (.ofNat 42)) H fun t59 H =>
  S69_3 call t2 t3 t5 t56 t59 H) (S69_3 call t2 t3 t5 t56 U H)
noncomputable def S69_5 (call : CallFn) (t2 t3 t5 t41 t43 : AV) (H : AHeap) : R :=
  pPick t41 (.bool true) t43 H fun t44 H =>
  onBool t44 (pFa 2 t3 H fun t45 H =>
  ldK .none H t45 fun t46 H =>
  pFa 3 t3 H fun t47 H =>
  ldK .none H t47 fun t48 H =>
  pN (aBsl 1 2 [(.int .i64 (.ofNat 0))] [(0, 1, t46), (1, 1, t48)]) H fun t49 H =>
  some (t49, H)) (pEql t5 (.int .i64 (.ofNat 19)) H fun t52 H =>
  guardA t52 false (pEql t5 (.int .i64 (.ofNat 40)) H fun t55 H =>
  S69_4 call t2 t3 t5 t52 t55 H) (S69_4 call t2 t3 t5 t52 U H))
noncomputable def S69_6 (call : CallFn) (t2 t3 t5 t37 t39 : AV) (H : AHeap) : R :=
  pPick t37 t39 (.bool false) H fun t40 H =>
  guardA t40 false (pEql t5 (.int .i64 (.ofNat 30)) H fun t43 H =>
  S69_5 call t2 t3 t5 t40 t43 H) (S69_5 call t2 t3 t5 t40 U H)
noncomputable def S69_7 (call : CallFn) (t2 t3 t5 t27 t29 : AV) (H : AHeap) : R :=
  pPick t27 (.bool true) t29 H fun t30 H =>
  onBool t30 (pFa 2 t3 H fun t31 H =>
  ldK .none H t31 fun t32 H =>
  pN (aBsl 1 1 [(.int .i64 (.ofNat 0))] [(0, 1, t32)]) H fun t33 H =>
  some (t33, H)) (pGeq t5 (.int .i64 (.ofNat 3)) H fun t36 H =>
  guardA t36 true (pLeq t5 (.int .i64 (.ofNat 16)) H fun t39 H =>
  S69_6 call t2 t3 t5 t36 t39 H) (S69_6 call t2 t3 t5 t36 U H))
noncomputable def S69_8 (call : CallFn) (t2 t3 t5 t23 t25 : AV) (H : AHeap) : R :=
  pPick t23 (.bool true) t25 H fun t26 H =>
  guardA t26 false (pEql t5 (.int .i64 (.ofNat 39)) H fun t29 H =>
  S69_7 call t2 t3 t5 t26 t29 H) (S69_7 call t2 t3 t5 t26 U H)
noncomputable def S69_9 (call : CallFn) (t2 t3 t5 t19 t21 : AV) (H : AHeap) : R :=
  pPick t19 (.bool true) t21 H fun t22 H =>
  guardA t22 false (pEql t5 (.int .i64 (.ofNat 27)) H fun t25 H =>
  S69_8 call t2 t3 t5 t22 t25 H) (S69_8 call t2 t3 t5 t22 U H)
noncomputable def S69_10 (call : CallFn) (t2 t3 t5 t15 t17 : AV) (H : AHeap) : R :=
  pPick t15 (.bool true) t17 H fun t18 H =>
  guardA t18 false (pEql t5 (.int .i64 (.ofNat 35)) H fun t21 H =>
  S69_9 call t2 t3 t5 t18 t21 H) (S69_9 call t2 t3 t5 t18 U H)
noncomputable def S69_11 (call : CallFn) (t2 t3 t5 t11 t13 : AV) (H : AHeap) : R :=
  pPick t11 (.bool true) t13 H fun t14 H =>
  guardA t14 false (pEql t5 (.int .i64 (.ofNat 33)) H fun t17 H =>
  S69_10 call t2 t3 t5 t14 t17 H) (S69_10 call t2 t3 t5 t14 U H)
noncomputable def S69_12 (call : CallFn) (t0 t1 : AV) (H : AHeap) : R :=
  pBox t0 H fun t2 H =>
  pBox t1 H fun t3 H =>
  pFa 0 t3 H fun t6 H =>
  ldK .none H t6 fun t7 H =>
  pEql t7 (.int .i64 (.ofNat 1)) H fun t10 H =>
  guardA t10 false (pEql t7 (.int .i64 (.ofNat 17)) H fun t13 H =>
  S69_11 call t2 t3 t7 t10 t13 H) (S69_11 call t2 t3 t7 t10 U H)
noncomputable def S69 : Ff := ⟨fun call l H => argA2 (fun t0 t1 => S69_12 call t0 t1 H) l⟩
/- gantline/live.Writes -/
noncomputable def S70_0 (call : CallFn) (t1 t3 t47 t49 : AV) (H : AHeap) : R :=
  pPick t47 (.bool true) t49 H fun t50 H =>
  onBool t50 (pFa 1 t1 H fun t51 H =>
  ldK .none H t51 fun t52 H =>
  pN (aBsl 1 1 [(.int .i64 (.ofNat 0))] [(0, 1, t52)]) H fun t53 H =>
  pC call 105 [t53] H fun t54 H =>
  some (t54, H)) (pEql t3 (.int .i64 (.ofNat 39)) H fun t57 H =>
  onBool t57 (pFa 1 t1 H fun t58 H =>
  ldK .none H t58 fun t59 H =>
  pFa 3 t1 H fun t60 H =>
  ldK .none H t60 fun t61 H =>
  pN (aBsl 1 2 [(.int .i64 (.ofNat 0))] [(0, 1, t59), (1, 1, t61)]) H fun t62 H =>
  pC call 105 [t62] H fun t63 H =>
  some (t63, H)) (some (.nilsl, H)))
noncomputable def S70_1 (call : CallFn) (t1 t3 t37 t39 : AV) (H : AHeap) : R :=
  pPick t37 (.bool true) t39 H fun t40 H =>
  onBool t40 (pFa 1 t1 H fun t41 H =>
  ldK .none H t41 fun t42 H =>
  pN (aBsl 1 1 [(.int .i64 (.ofNat 0))] [(0, 1, t42)]) H fun t43 H =>
  some (t43, H)) (pEql t3 (.int .i64 (.ofNat 20)) H fun t46 H =>
  guardA t46 false (pEql t3 (.int .i64 (.ofNat 21)) H fun t49 H =>
  S70_0 call t1 t3 t46 t49 H) (S70_0 call t1 t3 t46 U H))
noncomputable def S70_2 (call : CallFn) (t1 t3 t33 t35 : AV) (H : AHeap) : R :=
  pPick t33 (.bool true) t35 H fun t36 H =>
  guardA t36 false (pEql t3 (.int .i64 (.ofNat 37)) H fun t39 H =>
  S70_1 call t1 t3 t36 t39 H) (S70_1 call t1 t3 t36 U H)
noncomputable def S70_3 (call : CallFn) (t1 t3 t29 t31 : AV) (H : AHeap) : R :=
  pPick t29 (.bool true) t31 H fun t32 H =>
  guardA t32 false (pEql t3 (.int .i64 (.ofNat 36)) H fun t35 H =>
  S70_2 call t1 t3 t32 t35 H) (S70_2 call t1 t3 t32 U H)
noncomputable def S70_4 (call : CallFn) (t1 t3 t25 t27 : AV) (H : AHeap) : R :=
  pPick t25 (.bool true) t27 H fun t28 H =>
  guardA t28 false (pEql t3 (.int .i64 (.ofNat 34)) H fun t31 H =>
  S70_3 call t1 t3 t28 t31 H) (S70_3 call t1 t3 t28 U H)
noncomputable def S70_5 (call : CallFn) (t1 t3 t21 t23 : AV) (H : AHeap) : R :=
  pPick t21 (.bool true) t23 H fun t24 H =>
  guardA t24 false (pEql t3 (.int .i64 (.ofNat 33)) H fun t27 H =>
  S70_4 call t1 t3 t24 t27 H) (S70_4 call t1 t3 t24 U H)
noncomputable def S70_6 (call : CallFn) (t1 t3 t13 t19 : AV) (H : AHeap) : R :=
  pPick t13 (.bool true) t19 H fun t20 H =>
  guardA t20 false (pEql t3 (.int .i64 (.ofNat 30)) H fun t23 H =>
  S70_5 call t1 t3 t20 t23 H) (S70_5 call t1 t3 t20 U H)
noncomputable def S70_7 (call : CallFn) (t1 t3 t13 t16 t18 : AV) (H : AHeap) : R :=
  guardA t13 false (pPick t16 t18 (.bool false) H fun t19 H =>
  S70_6 call t1 t3 t13 t19 H) (S70_6 call t1 t3 t13 U H)
noncomputable def S70_8 (call : CallFn) (t1 t3 t13 t16 : AV) (H : AHeap) : R :=
  guardA t16 true (pLeq t3 (.int .i64 (.ofNat 27)) H fun t18 H =>
  S70_7 call t1 t3 t13 t16 t18 H) (S70_7 call t1 t3 t13 t16 U H)
noncomputable def S70_9 (call : CallFn) (t1 t3 t9 t11 : AV) (H : AHeap) : R :=
  pPick t9 t11 (.bool false) H fun t12 H =>
  guardA t12 false (pGeq t3 (.int .i64 (.ofNat 25)) H fun t15 H =>
  S70_8 call t1 t3 t12 t15 H) (S70_8 call t1 t3 t12 U H)
noncomputable def S70_10 (call : CallFn) (t0 : AV) (H : AHeap) : R :=
  pBox t0 H fun t1 H =>
  pFa 0 t1 H fun t4 H =>
  ldK .none H t4 fun t5 H =>
  pGeq t5 (.int .i64 (.ofNat 0)) H fun t8 H =>
  guardA t8 true (pLeq t5 (.int .i64 (.ofNat 17)) H fun t11 H =>
  S70_9 call t1 t5 t8 t11 H) (S70_9 call t1 t5 t8 U H)
noncomputable def S70 : Ff := ⟨fun call l H => argA1 (fun t0 => S70_10 call t0 H) l⟩
end Go.Proofs.YtlmmhkcimjjakaaGreatDoor
