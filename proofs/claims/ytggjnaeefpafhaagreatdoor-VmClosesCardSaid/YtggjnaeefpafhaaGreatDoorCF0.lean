/- Plain functions, printed: part 0. -/
import Derived.Test.YtggjnaeefpafhaaGreatDoorAdE
import Derived.Test.YtggjnaeefpafhaaGreatDoorProg
import Derived.KernelRfl
namespace Go.Proofs.YtggjnaeefpafhaaGreatDoor
open Go.Ab
set_option maxRecDepth 100000
/- gantline/gantlinelaw17.VmCloses -/
noncomputable def S7_0 (_ : CallFn) (t128 t132 : AV) (H : AHeap) : R :=
  pPick t128 t132 (.bool false) H fun t133 H =>
  some (t133, H)
noncomputable def S7_1 (call : CallFn) (t8 t10 : AV) (H : AHeap) : R :=
  pC call 14 [t10] H fun t123 H =>
  pExt t123 0 H fun t124 H =>
  pExt t123 1 H fun _ H =>
  pEql t124 (.int .i64 (.ofNat 1)) H fun t127 H =>
  guardA t127 true (pC call 26 [t10] H fun t130 H =>
  pC call 30 [t130, t8] H fun t132 H =>
  S7_0 call t127 t132 H) (S7_0 call t127 U H)
noncomputable def S7_2 (call : CallFn) (n : Nat) : AV → AV → AV → AV → AHeap → R :=
  Nat.rec (motive := fun _ => AV → AV → AV → AV → AHeap → R) (fun _ _ _ _ _ => none) (fun _ q0 t6 t8 t10 t12 H => pFa 5 t6 H fun t112 H =>
  ldK .none H t112 fun t113 H =>
  pO (aLen .sl H t113) H fun t114 H =>
  pLss t12 t114 H fun t115 H =>
  onBool t115 (pC call 13 [t10, (.int .i64 (.ofNat 1)), (.int .i64 (.ofNat 0))] H fun t119 H =>
  pO (aUn .not t119) H fun t120 H =>
  onBool t120 (some ((.bool false), H)) (pAdd t12 (.int .i64 (.ofNat 1)) H fun t117 H =>
  q0 t6 t8 t10 t117 H)) (S7_1 call t8 t10 H)) n
noncomputable def S7_3 (call : CallFn) (t5 t6 t8 : AV) (H : AHeap) : R :=
  pFa 5 t6 H fun t83 H =>
  ldK .none H t83 fun t84 H =>
  pO (someAgg (aFill [(.int .i64 (.ofNat 0)), (.int .i64 (.ofNat 0)), (.int .i64 (.ofNat 0)), (.int .i64 (.ofNat 0)), (.int .i64 (.ofNat 0))] [(0, 1, (.int .i64 (.ofNat 22))), (1, 1, (.int .i64 (.negSucc 0)))])) H fun t85 H =>
  pN (aBsl 5 1 [(.int .i64 (.ofNat 0)), (.int .i64 (.ofNat 0)), (.int .i64 (.ofNat 0)), (.int .i64 (.ofNat 0)), (.int .i64 (.ofNat 0))] [(0, 5, t85)]) H fun t86 H =>
  pW (aApp 5 40 H t84 t86) fun t87 H =>
  pFa 5 t6 H fun t88 H =>
  stK 1 H t88 t87 fun _ H =>
  pFa 5 t6 H fun t89 H =>
  ldK .none H t89 fun t90 H =>
  pO (aLen .sl H t90) H fun t91 H =>
  pN (aMksl 1 8 [(.int .u64 (.ofNat 0))] t91 t91) H fun t92 H =>
  pFa 6 t6 H fun t93 H =>
  stK 1 H t93 t92 fun _ H =>
  ldK (.some 7) H t6 fun t94 H =>
  pN (aBsl 7 1 [(.int .i64 (.ofNat 0)), (.int .i64 (.ofNat 0)), (.int .i64 (.ofNat 0)), (.int .i64 (.ofNat 0)), .nilsl, .nilsl, .nilsl] [(0, 7, t94)]) H fun t95 H =>
  pFa 4 t5 H fun t96 H =>
  stK 1 H t96 t95 fun _ H =>
  pFa 4 t5 H fun t97 H =>
  ldK .none H t97 fun t98 H =>
  ldK (.some 6) H t5 fun t99 H =>
  ldK (.some 7) H t6 fun t100 H =>
  pC call 31 [t99, t100] H fun t101 H =>
  andR (andB (ckV (aLoad .none H t97) t98) true) (
  pIa 7 t98 (.int .i64 (.ofNat 0)) H fun t102 H =>
  pFa 6 t102 H fun t103 H =>
  stK 1 H t103 t101 fun _ H =>
  ldK (.some 6) H t5 fun t105 H =>
  pC call 11 [t105, (.int .i64 (.ofNat 8))] H fun t106 H =>
  pExt t106 0 H fun t107 H =>
  pExt t106 1 H fun t108 H =>
  pNeq t108 (.int .i64 (.ofNat 0)) H fun t110 H =>
  onBool t110 (some ((.bool false), H)) (S7_2 call 1000000 t6 t8 t107 (.int .i64 (.ofNat 0)) H))
noncomputable def S7_5 (_ : CallFn) (q1 : AV → AV → AV → AV → AV → AV → AHeap → R) (t0 t1 t5 t6 t8 t9 : AV) (H : AHeap) : R :=
  pAdd t9 (.int .i64 (.ofNat 1)) H fun t65 H =>
  q1 t0 t1 t5 t6 t8 t65 H
noncomputable def S7_4 (call : CallFn) (n : Nat) : AV → AV → AV → AV → AV → AV → AHeap → R :=
  Nat.rec (motive := fun _ => AV → AV → AV → AV → AV → AV → AHeap → R) (fun _ _ _ _ _ _ _ => none) (fun _ q1 t0 t1 t5 t6 t8 t9 H => pAdd t0 t1 H fun t62 H =>
  pLss t9 t62 H fun t63 H =>
  onBool t63 (pFa 5 t6 H fun t66 H =>
  ldK .none H t66 fun t67 H =>
  pO (someAgg (aFill [(.int .i64 (.ofNat 0)), (.int .i64 (.ofNat 0)), (.int .i64 (.ofNat 0)), (.int .i64 (.ofNat 0)), (.int .i64 (.ofNat 0))] [(0, 1, (.int .i64 (.ofNat 39))), (1, 1, (.int .i64 (.ofNat 2))), (2, 1, (.int .i64 (.ofNat 0))), (3, 1, (.int .i64 (.ofNat 3)))])) H fun t68 H =>
  pO (someAgg (aFill [(.int .i64 (.ofNat 0)), (.int .i64 (.ofNat 0)), (.int .i64 (.ofNat 0)), (.int .i64 (.ofNat 0)), (.int .i64 (.ofNat 0))] [(0, 1, (.int .i64 (.ofNat 42))), (1, 1, (.int .i64 (.ofNat 2)))])) H fun t69 H =>
  pO (someAgg (aFill [(.int .i64 (.ofNat 0)), (.int .i64 (.ofNat 0)), (.int .i64 (.ofNat 0)), (.int .i64 (.ofNat 0)), (.int .i64 (.ofNat 0))] [(0, 1, (.int .i64 (.ofNat 42))), (1, 1, (.int .i64 (.ofNat 3)))])) H fun t70 H =>
  pN (aBsl 5 3 [(.int .i64 (.ofNat 0)), (.int .i64 (.ofNat 0)), (.int .i64 (.ofNat 0)), (.int .i64 (.ofNat 0)), (.int .i64 (.ofNat 0))] [(0, 5, t68), (5, 5, t69), (10, 5, t70)]) H fun t71 H =>
  pW (aApp 5 40 H t67 t71) fun t72 H =>
  pFa 5 t6 H fun t73 H =>
  stK 1 H t73 t72 fun _ H =>
  pLss t9 t0 H fun t76 H =>
  onBool t76 (pN (aBsl 1 2 [(.int .i64 (.ofNat 0))] [(0, 1, (.int .i64 (.ofNat 70))), (1, 1, (.int .i64 (.ofNat 1)))]) H fun t78 H =>
  pW (aApp 1 8 H t8 t78) fun t79 H =>
  S7_5 call q1 t0 t1 t5 t6 t79 t9 H) (pN (aBsl 1 2 [(.int .i64 (.ofNat 0))] [(0, 1, (.int .i64 (.ofNat 0))), (1, 1, (.int .i64 (.ofNat 0)))]) H fun t81 H =>
  pW (aApp 1 8 H t8 t81) fun t82 H =>
  S7_5 call q1 t0 t1 t5 t6 t82 t9 H)) (S7_3 call t5 t6 t8 H)) n
noncomputable def S7_6 (call : CallFn) (t0 t1 t5 t6 : AV) (H : AHeap) : R :=
  pFa 5 t6 H fun t52 H =>
  ldK .none H t52 fun t53 H =>
  pO (someAgg (aFill [(.int .i64 (.ofNat 0)), (.int .i64 (.ofNat 0)), (.int .i64 (.ofNat 0)), (.int .i64 (.ofNat 0)), (.int .i64 (.ofNat 0))] [(0, 1, (.int .i64 (.ofNat 40))), (1, 1, (.int .i64 (.ofNat 0)))])) H fun t54 H =>
  pO (someAgg (aFill [(.int .i64 (.ofNat 0)), (.int .i64 (.ofNat 0)), (.int .i64 (.ofNat 0)), (.int .i64 (.ofNat 0)), (.int .i64 (.ofNat 0))] [(0, 1, (.int .i64 (.ofNat 0))), (1, 1, (.int .i64 (.ofNat 3))), (2, 1, (.int .i64 (.ofNat 1)))])) H fun t55 H =>
  pN (aBsl 5 2 [(.int .i64 (.ofNat 0)), (.int .i64 (.ofNat 0)), (.int .i64 (.ofNat 0)), (.int .i64 (.ofNat 0)), (.int .i64 (.ofNat 0))] [(0, 5, t54), (5, 5, t55)]) H fun t56 H =>
  pW (aApp 5 40 H t53 t56) fun t57 H =>
  pFa 5 t6 H fun t58 H =>
  stK 1 H t58 t57 fun _ H =>
  S7_4 call 1000000 t0 t1 t5 t6 .nilsl (.int .i64 (.ofNat 0)) H
noncomputable def S7_7 (call : CallFn) (n : Nat) : AV → AV → AV → AV → AV → AHeap → R :=
  Nat.rec (motive := fun _ => AV → AV → AV → AV → AV → AHeap → R) (fun _ _ _ _ _ _ => none) (fun _ q2 t0 t1 t5 t6 t7 H => pLss t7 t0 H fun t43 H =>
  onBool t43 (pFa 5 t6 H fun t46 H =>
  ldK .none H t46 fun t47 H =>
  pO (someAgg (aFill [(.int .i64 (.ofNat 0)), (.int .i64 (.ofNat 0)), (.int .i64 (.ofNat 0)), (.int .i64 (.ofNat 0)), (.int .i64 (.ofNat 0))] [(0, 1, (.int .i64 (.ofNat 38))), (1, 1, (.int .i64 (.ofNat 0))), (2, 1, (.int .i64 (.ofNat 1)))])) H fun t48 H =>
  pN (aBsl 5 1 [(.int .i64 (.ofNat 0)), (.int .i64 (.ofNat 0)), (.int .i64 (.ofNat 0)), (.int .i64 (.ofNat 0)), (.int .i64 (.ofNat 0))] [(0, 5, t48)]) H fun t49 H =>
  pW (aApp 5 40 H t47 t49) fun t50 H =>
  pFa 5 t6 H fun t51 H =>
  stK 1 H t51 t50 fun _ H =>
  pAdd t7 (.int .i64 (.ofNat 1)) H fun t45 H =>
  q2 t0 t1 t5 t6 t45 H) (S7_6 call t0 t1 t5 t6 H)) n
noncomputable def S7_8 (call : CallFn) (t0 t1 t27 t29 : AV) (H : AHeap) : R :=
  pPick t27 (.bool true) t29 H fun t30 H =>
  onBool t30 (some ((.bool true), H)) (pN (aBsl 1 2 [(.int .i64 (.ofNat 0))] [(0, 1, (.int .i64 (.ofNat 5))), (1, 1, (.int .i64 (.ofNat 70)))]) H fun t31 H =>
  pO (someAgg (aFill [(.int .i64 (.ofNat 0)), (.int .i64 (.ofNat 0)), (.int .u64 (.ofNat 0))] [(0, 1, (.int .i64 (.ofNat 3)))])) H fun t32 H =>
  pN (aBsl 3 1 [(.int .i64 (.ofNat 0)), (.int .i64 (.ofNat 0)), (.int .u64 (.ofNat 0))] [(0, 3, t32)]) H fun t33 H =>
  pO (someAgg (aFill [.nilsl, .nilsl, .nilsl, .nilsl, .nilsl, (.int .i64 (.ofNat 0))] [(2, 1, t31), (0, 1, t33)])) H fun t34 H =>
  pNew [.nilsl, .nilsl, .nilsl, .nilsl, .nilsl, (.int .i64 (.ofNat 0))] H fun t5 H =>
  stK 6 H t5 t34 fun _ H =>
  pN (aBsl 1 4 [(.bool false)] [(0, 1, (.bool true)), (1, 1, (.bool false)), (2, 1, (.bool false)), (3, 1, (.bool false))]) H fun t35 H =>
  pO (someAgg (aFill [(.int .i64 (.ofNat 0)), (.int .i64 (.ofNat 0)), (.int .i64 (.ofNat 0)), (.int .i64 (.ofNat 0)), (.int .i64 (.ofNat 0))] [(0, 1, (.int .i64 (.ofNat 0))), (1, 1, (.int .i64 (.ofNat 1))), (2, 1, (.int .i64 (.ofNat 0)))])) H fun t36 H =>
  pO (someAgg (aFill [(.int .i64 (.ofNat 0)), (.int .i64 (.ofNat 0)), (.int .i64 (.ofNat 0)), (.int .i64 (.ofNat 0)), (.int .i64 (.ofNat 0))] [(0, 1, (.int .i64 (.ofNat 37))), (1, 1, (.int .i64 (.ofNat 0))), (2, 1, (.int .i64 (.ofNat 0))), (3, 1, (.int .i64 (.ofNat 1)))])) H fun t37 H =>
  pO (someAgg (aFill [(.int .i64 (.ofNat 0)), (.int .i64 (.ofNat 0)), (.int .i64 (.ofNat 0)), (.int .i64 (.ofNat 0)), (.int .i64 (.ofNat 0))] [(0, 1, (.int .i64 (.ofNat 0))), (1, 1, (.int .i64 (.ofNat 1))), (2, 1, (.int .i64 (.ofNat 1)))])) H fun t38 H =>
  pN (aBsl 5 3 [(.int .i64 (.ofNat 0)), (.int .i64 (.ofNat 0)), (.int .i64 (.ofNat 0)), (.int .i64 (.ofNat 0)), (.int .i64 (.ofNat 0))] [(0, 5, t36), (5, 5, t37), (10, 5, t38)]) H fun t39 H =>
  pO (someAgg (aFill [(.int .i64 (.ofNat 0)), (.int .i64 (.ofNat 0)), (.int .i64 (.ofNat 0)), (.int .i64 (.ofNat 0)), .nilsl, .nilsl, .nilsl] [(2, 1, (.int .i64 (.ofNat 4))), (4, 1, t35), (5, 1, t39)])) H fun t40 H =>
  pNew [(.int .i64 (.ofNat 0)), (.int .i64 (.ofNat 0)), (.int .i64 (.ofNat 0)), (.int .i64 (.ofNat 0)), .nilsl, .nilsl, .nilsl] H fun t6 H =>
  stK 7 H t6 t40 fun _ H =>
  S7_7 call 1000000 t0 t1 t5 t6 (.int .i64 (.ofNat 0)) H)
noncomputable def S7_9 (call : CallFn) (t0 t1 t23 t25 : AV) (H : AHeap) : R :=
  pPick t23 (.bool true) t25 H fun t26 H =>
  guardA t26 false (pGtr t1 (.int .i64 (.ofNat 4)) H fun t29 H =>
  S7_8 call t0 t1 t26 t29 H) (S7_8 call t0 t1 t26 U H)
noncomputable def S7_10 (call : CallFn) (t0 t1 t19 t21 : AV) (H : AHeap) : R :=
  pPick t19 (.bool true) t21 H fun t22 H =>
  guardA t22 false (pLss t1 (.int .i64 (.ofNat 0)) H fun t25 H =>
  S7_9 call t0 t1 t22 t25 H) (S7_9 call t0 t1 t22 U H)
noncomputable def S7_11 (call : CallFn) (t0 t1 : AV) (H : AHeap) : R :=
  pC call 10 [] H fun t15 H =>
  pO (aUn .not t15) H fun t16 H =>
  onBool t16 (some ((.bool false), H)) (pLss t0 (.int .i64 (.ofNat 0)) H fun t18 H =>
  guardA t18 false (pGtr t0 (.int .i64 (.ofNat 5)) H fun t21 H =>
  S7_10 call t0 t1 t18 t21 H) (S7_10 call t0 t1 t18 U H))
noncomputable def S7 : Ff := ⟨fun call l H => argA2 (fun t0 t1 => S7_11 call t0 t1 H) l⟩
/- gantline/gantlinelaw17.awake -/
noncomputable def S10_0 (_ : CallFn) (t130 t134 : AV) (H : AHeap) : R :=
  pPick t130 t134 (.bool false) H fun t135 H =>
  some (t135, H)
noncomputable def S10_1 (call : CallFn) (t1 t124 t128 : AV) (H : AHeap) : R :=
  pPick t124 t128 (.bool false) H fun t129 H =>
  guardA t129 true (pC call 37 [t1] H fun t132 H =>
  pO (aLen .sl H t132) H fun t133 H =>
  pEql t133 (.int .i64 (.ofNat 0)) H fun t134 H =>
  S10_0 call t129 t134 H) (S10_0 call t129 U H)
noncomputable def S10_2 (call : CallFn) (t1 t120 t122 : AV) (H : AHeap) : R :=
  pPick t120 t122 (.bool false) H fun t123 H =>
  guardA t123 true (pC call 24 [t1] H fun t126 H =>
  pO (aLen .sl H t126) H fun t127 H =>
  pEql t127 (.int .i64 (.ofNat 0)) H fun t128 H =>
  S10_1 call t1 t123 t128 H) (S10_1 call t1 t123 U H)
noncomputable def S10_3 (call : CallFn) (t1 t113 t118 : AV) (H : AHeap) : R :=
  pPick t113 t118 (.bool false) H fun t119 H =>
  guardA t119 true (pC call 20 [t1] H fun t122 H =>
  S10_2 call t1 t119 t122 H) (S10_2 call t1 t119 U H)
noncomputable def S10_4 (call : CallFn) (t1 t8 t106 t111 : AV) (H : AHeap) : R :=
  pPick t106 t111 (.bool false) H fun t112 H =>
  guardA t112 true (pIa 7 t8 (.int .i64 (.ofNat 1)) H fun t115 H =>
  pFa 1 t115 H fun t116 H =>
  ldK .none H t116 fun t117 H =>
  pEql t117 (.int .i64 (.ofNat 22)) H fun t118 H =>
  S10_3 call t1 t112 t118 H) (S10_3 call t1 t112 U H)
noncomputable def S10_5 (call : CallFn) (t1 t8 t99 t104 : AV) (H : AHeap) : R :=
  pPick t99 t104 (.bool false) H fun t105 H =>
  guardA t105 true (pIa 7 t8 (.int .i64 (.ofNat 0)) H fun t108 H =>
  pFa 3 t108 H fun t109 H =>
  ldK .none H t109 fun t110 H =>
  pEql t110 (.int .i64 (.ofNat 1)) H fun t111 H =>
  S10_4 call t1 t8 t105 t111 H) (S10_4 call t1 t8 t105 U H)
noncomputable def S10_6 (call : CallFn) (t1 t8 t94 t97 : AV) (H : AHeap) : R :=
  pPick t94 t97 (.bool false) H fun t98 H =>
  guardA t98 true (pIa 7 t8 (.int .i64 (.ofNat 0)) H fun t101 H =>
  pFa 1 t101 H fun t102 H =>
  ldK .none H t102 fun t103 H =>
  pEql t103 (.int .i64 (.ofNat 42)) H fun t104 H =>
  S10_5 call t1 t8 t98 t104 H) (S10_5 call t1 t8 t98 U H)
noncomputable def S10_7 (call : CallFn) (t1 t8 t88 t92 : AV) (H : AHeap) : R :=
  pPick t88 t92 (.bool false) H fun t93 H =>
  guardA t93 true (pO (aLen .sl H t8) H fun t96 H =>
  pEql t96 (.int .i64 (.ofNat 2)) H fun t97 H =>
  S10_6 call t1 t8 t93 t97 H) (S10_6 call t1 t8 t93 U H)
noncomputable def S10_8 (call : CallFn) (t1 t8 t84 t86 : AV) (H : AHeap) : R :=
  pPick t84 t86 (.bool false) H fun t87 H =>
  guardA t87 true (pC call 26 [t1] H fun t90 H =>
  pN (aBsl 1 1 [(.int .i64 (.ofNat 0))] [(0, 1, (.int .i64 (.ofNat 5)))]) H fun t91 H =>
  pC call 30 [t90, t91] H fun t92 H =>
  S10_7 call t1 t8 t87 t92 H) (S10_7 call t1 t8 t87 U H)
noncomputable def S10_9 (call : CallFn) (t1 t8 t10 t80 t82 : AV) (H : AHeap) : R :=
  pPick t80 t82 (.bool false) H fun t83 H =>
  guardA t83 true (pEql t10 (.int .i64 (.ofNat 0)) H fun t86 H =>
  S10_8 call t1 t8 t83 t86 H) (S10_8 call t1 t8 t83 U H)
noncomputable def S10_10 (call : CallFn) (t1 t8 t9 t10 t75 t78 : AV) (H : AHeap) : R :=
  pPick t75 t78 (.bool false) H fun t79 H =>
  guardA t79 true (pEql t9 (.int .i64 (.ofNat 1)) H fun t82 H =>
  S10_9 call t1 t8 t10 t79 t82 H) (S10_9 call t1 t8 t10 t79 U H)
noncomputable def S10_11 (call : CallFn) (t1 t8 t9 t10 t70 t73 : AV) (H : AHeap) : R :=
  pPick t70 t73 (.bool false) H fun t74 H =>
  guardA t74 true (pC call 18 [t1] H fun t77 H =>
  pO (aUn .not t77) H fun t78 H =>
  S10_10 call t1 t8 t9 t10 t74 t78 H) (S10_10 call t1 t8 t9 t10 t74 U H)
noncomputable def S10_12 (call : CallFn) (t1 t8 t9 t10 t67 t68 : AV) (H : AHeap) : R :=
  pPick t67 t68 (.bool false) H fun t69 H =>
  guardA t69 true (pC call 13 [t1, (.int .i64 (.ofNat 1)), (.int .i64 (.ofNat 0))] H fun t72 H =>
  pO (aUn .not t72) H fun t73 H =>
  S10_11 call t1 t8 t9 t10 t69 t73 H) (S10_11 call t1 t8 t9 t10 t69 U H)
noncomputable def S10_13 (call : CallFn) (t1 t7 t8 t9 t10 t64 t65 : AV) (H : AHeap) : R :=
  pPick t64 t65 (.bool false) H fun t66 H =>
  guardA t66 true (S10_12 call t1 t8 t9 t10 t66 t7 H) (S10_12 call t1 t8 t9 t10 t66 U H)
noncomputable def S10_14 (call : CallFn) (t1 t6 t7 t8 t9 t10 t61 t62 : AV) (H : AHeap) : R :=
  pPick t61 t62 (.bool false) H fun t63 H =>
  guardA t63 true (S10_13 call t1 t7 t8 t9 t10 t63 t6 H) (S10_13 call t1 t7 t8 t9 t10 t63 U H)
noncomputable def S10_15 (call : CallFn) (t1 t5 t6 t7 t8 t9 t10 t57 t59 : AV) (H : AHeap) : R :=
  pPick t57 t59 (.bool false) H fun t60 H =>
  guardA t60 true (S10_14 call t1 t6 t7 t8 t9 t10 t60 t5 H) (S10_14 call t1 t6 t7 t8 t9 t10 t60 U H)
noncomputable def S10_16 (call : CallFn) (t1 t3 t4 t40 t42 : AV) (H : AHeap) : R :=
  pPick t40 t42 (.bool false) H fun t43 H =>
  pC call 18 [t1] H fun t45 H =>
  pC call 13 [t1, (.int .i64 (.ofNat 1)), (.int .i64 (.ofNat 0))] H fun t47 H =>
  pC call 15 [t1] H fun t49 H =>
  pC call 14 [t1] H fun t52 H =>
  pExt t52 0 H fun t53 H =>
  pExt t52 1 H fun t54 H =>
  pEql t3 (.int .i64 (.ofNat 1)) H fun t56 H =>
  guardA t56 true (pEql t4 (.int .i64 (.ofNat 1)) H fun t59 H =>
  S10_15 call t1 t43 t45 t47 t49 t53 t54 t56 t59 H) (S10_15 call t1 t43 t45 t47 t49 t53 t54 t56 U H)
noncomputable def S10_17 (call : CallFn) (t1 t27 t31 : AV) (H : AHeap) : R :=
  pPick t27 (.bool true) t31 H fun t32 H =>
  onBool t32 (some ((.bool false), H)) (pC call 17 [t1] H fun t34 H =>
  pO (aLen .sl H t34) H fun t35 H =>
  pC call 19 [t1, (.int .i64 (.ofNat 1))] H fun t37 H =>
  pC call 13 [t1, (.int .i64 (.ofNat 1)), (.int .i64 (.ofNat 0))] H fun t39 H =>
  guardA t39 true (pC call 13 [t1, (.int .i64 (.ofNat 1)), (.int .i64 (.ofNat 0))] H fun t42 H =>
  S10_16 call t1 t35 t37 t39 t42 H) (S10_16 call t1 t35 t37 t39 U H))
noncomputable def S10_18 (call : CallFn) (t1 t22 t25 : AV) (H : AHeap) : R :=
  pPick t22 (.bool true) t25 H fun t26 H =>
  guardA t26 false (pC call 21 [t1] H fun t29 H =>
  pC call 22 [t29] H fun t30 H =>
  pO (aEq false .ptr t30 .nilp) H fun t31 H =>
  S10_17 call t1 t26 t31 H) (S10_17 call t1 t26 U H)
noncomputable def S10_19 (call : CallFn) (t1 t18 t20 : AV) (H : AHeap) : R :=
  pPick t18 (.bool true) t20 H fun t21 H =>
  guardA t21 false (pC call 21 [t1] H fun t24 H =>
  pO (aEq false .ptr t24 .nilp) H fun t25 H =>
  S10_18 call t1 t21 t25 H) (S10_18 call t1 t21 U H)
noncomputable def S10_20 (call : CallFn) (H : AHeap) : R :=
  pC call 12 [] H fun t12 H =>
  pC call 11 [t12, (.int .i64 (.ofNat 8))] H fun t13 H =>
  pExt t13 0 H fun t14 H =>
  pExt t13 1 H fun t15 H =>
  pNeq t15 (.int .i64 (.ofNat 0)) H fun t17 H =>
  guardA t17 false (pO (aEq false .ptr t14 .nilp) H fun t20 H =>
  S10_19 call t14 t17 t20 H) (S10_19 call t14 t17 U H)
noncomputable def S10 : Ff := ⟨fun call l H => argA0 (S10_20 call H) l⟩
/- gantline/vm.New -/
noncomputable def S11_0 (call : CallFn) (t0 t1 : AV) (H : AHeap) : R :=
  pBox t0 H fun t2 H =>
  ldK (.some 6) H t2 fun t9 H =>
  pC call 38 [t9] H fun t10 H =>
  pO (aUn .not t10) H fun t11 H =>
  onBool t11 (some (.tup [.nilp, (.int .i64 (.ofNat 8))], H)) (pFa 0 t2 H fun t14 H =>
  ldK .none H t14 fun t15 H =>
  pC call 39 [t1, t15] H fun t16 H =>
  pExt t16 0 H fun t17 H =>
  pExt t16 1 H fun t18 H =>
  pNeq t18 (.int .i64 (.ofNat 0)) H fun t20 H =>
  onBool t20 (some (.tup [.nilp, t18], H)) (ldK (.some 6) H t2 fun t22 H =>
  pC call 40 [t22] H fun t23 H =>
  stK 6 H t2 t23 fun _ H =>
  ldK (.some 6) H t2 fun t24 H =>
  ldK (.some 6) H t2 fun t26 H =>
  pFa 1 t2 H fun t28 H =>
  ldK .none H t28 fun t29 H =>
  pO (aLen .sl H t29) H fun t30 H =>
  pN (aMksl 1 8 [(.int .i64 (.ofNat 0))] t30 t30) H fun t31 H =>
  pC call 41 [t26] H fun t27 H =>
  andR (andB (ckV (aLoad (.some 6) H t2) t24) (andB (ckV (aLoad .none H t28) t29) (andB (ckV (aLen .sl H t29) t30) true))) (
  pO (someAgg (aFill [.nilsl, .nilsl, .nilsl, .nilsl, .nilsl, (.int .i64 (.ofNat 0)), .nilp, .nilp, .nilsl, .nilsl, .nilsl, (.int .i64 (.ofNat 0)), (.int .i64 (.ofNat 0))] [(0, 6, t24), (6, 1, t17), (7, 1, t27), (8, 1, t31)])) H fun t32 H =>
  pBox t32 H fun t33 H =>
  pO (aNil t33) H fun t35 H =>
  pFa 7 t35 H fun t36 H =>
  ldK .none H t36 fun t37 H =>
  pFa 5 t2 H fun t38 H =>
  ldK .none H t38 fun t39 H =>
  pC call 42 [t37, t39, .nilsl] H fun _ H =>
  pC call 43 [t33] H fun _ H =>
  some (.tup [t33, (.int .i64 (.ofNat 0))], H))))
noncomputable def S11 : Ff := ⟨fun call l H => argA2 (fun t0 t1 => S11_0 call t0 t1 H) l⟩
/- gantline/gantlinelaw17.prints -/
noncomputable def S12_0 (_ : CallFn) (H : AHeap) : R :=
  pNew [.nilsl, .nilsl, .nilsl, .nilsl, .nilsl, (.int .i64 (.ofNat 0))] H fun t0 H =>
  pN (aBsl 1 1 [(.int .i64 (.ofNat 0))] [(0, 1, (.int .i64 (.ofNat 5)))]) H fun t1 H =>
  pN (aBsl 1 1 [(.bool false)] [(0, 1, (.bool false))]) H fun t2 H =>
  pO (someAgg (aFill [(.int .i64 (.ofNat 0)), (.int .i64 (.ofNat 0)), (.int .i64 (.ofNat 0)), (.int .i64 (.ofNat 0)), (.int .i64 (.ofNat 0))] [(0, 1, (.int .i64 (.ofNat 0)))])) H fun t3 H =>
  pO (someAgg (aFill [(.int .i64 (.ofNat 0)), (.int .i64 (.ofNat 0)), (.int .i64 (.ofNat 0)), (.int .i64 (.ofNat 0)), (.int .i64 (.ofNat 0))] [(0, 1, (.int .i64 (.ofNat 42)))])) H fun t4 H =>
  pO (someAgg (aFill [(.int .i64 (.ofNat 0)), (.int .i64 (.ofNat 0)), (.int .i64 (.ofNat 0)), (.int .i64 (.ofNat 0)), (.int .i64 (.ofNat 0))] [(0, 1, (.int .i64 (.ofNat 22))), (1, 1, (.int .i64 (.negSucc 0)))])) H fun t5 H =>
  pN (aBsl 5 3 [(.int .i64 (.ofNat 0)), (.int .i64 (.ofNat 0)), (.int .i64 (.ofNat 0)), (.int .i64 (.ofNat 0)), (.int .i64 (.ofNat 0))] [(0, 5, t3), (5, 5, t4), (10, 5, t5)]) H fun t6 H =>
  pN (aBsl 1 3 [(.int .u64 (.ofNat 0))] [(0, 1, (.int .u64 (.ofNat 0))), (1, 1, (.int .u64 (.ofNat 0))), (2, 1, (.int .u64 (.ofNat 0)))]) H fun t7 H =>
  pO (someAgg (aFill [(.int .i64 (.ofNat 0)), (.int .i64 (.ofNat 0)), (.int .i64 (.ofNat 0)), (.int .i64 (.ofNat 0)), .nilsl, .nilsl, .nilsl] [(2, 1, (.int .i64 (.ofNat 1))), (4, 1, t2), (5, 1, t6), (6, 1, t7)])) H fun t8 H =>
  pN (aBsl 7 1 [(.int .i64 (.ofNat 0)), (.int .i64 (.ofNat 0)), (.int .i64 (.ofNat 0)), (.int .i64 (.ofNat 0)), .nilsl, .nilsl, .nilsl] [(0, 7, t8)]) H fun t9 H =>
  pO (someAgg (aFill [.nilsl, .nilsl, .nilsl, .nilsl, .nilsl, (.int .i64 (.ofNat 0))] [(2, 1, t1), (4, 1, t9)])) H fun t10 H =>
  stK 6 H t0 t10 fun _ H =>
  ob (allM (fun o => o) [aLoad (.some 6) H t0]) fun vs => some (resV vs, H)
noncomputable def S12 : Ff := ⟨fun call l H => argA0 (S12_0 call H) l⟩
/- (*gantline/vm.Machine).Do -/
noncomputable def S13_0 (call : CallFn) (t0 : AV) (H : AHeap) : R :=
  pC call 43 [t0] H fun _ H =>
  some ((.bool true), H)
noncomputable def S13_1 (call : CallFn) (t0 t1 t2 t7 t9 t11 t82 t87 : AV) (H : AHeap) : R :=
  pPick t82 t87 (.bool false) H fun t88 H =>
  onBool t88 (pO (aNil t0) H fun t91 H =>
  pFa 10 t91 H fun t92 H =>
  ldK .none H t92 fun t93 H =>
  pFa 0 t9 H fun t95 H =>
  ldK .none H t95 fun t96 H =>
  pFa 0 t11 H fun t97 H =>
  ldK .none H t97 fun t98 H =>
  pFa 1 t11 H fun t99 H =>
  ldK .none H t99 fun t100 H =>
  pIa 3 t7 t2 H fun t103 H =>
  ldK (.some 3) H t103 fun t104 H =>
  pO (someAgg (aFill [(.int .i64 (.ofNat 0)), (.int .i64 (.ofNat 0)), (.int .i64 (.ofNat 0)), (.int .i64 (.ofNat 0)), (.int .i64 (.ofNat 0)), (.int .i64 (.ofNat 0)), (.int .i64 (.ofNat 0))] [(0, 1, t1), (1, 1, t96), (2, 1, t98), (3, 1, t100), (4, 3, t104)])) H fun t105 H =>
  pN (aBsl 7 1 [(.int .i64 (.ofNat 0)), (.int .i64 (.ofNat 0)), (.int .i64 (.ofNat 0)), (.int .i64 (.ofNat 0)), (.int .i64 (.ofNat 0)), (.int .i64 (.ofNat 0)), (.int .i64 (.ofNat 0))] [(0, 7, t105)]) H fun t106 H =>
  pW (aApp 7 56 H t93 t106) fun t107 H =>
  pO (aNil t0) H fun t108 H =>
  pFa 10 t108 H fun t109 H =>
  stK 1 H t109 t107 fun _ H =>
  S13_0 call t0 H) (S13_0 call t0 H)
noncomputable def S13_2 (call : CallFn) (t0 t1 t2 t7 t9 t11 t75 t80 : AV) (H : AHeap) : R :=
  pPick t75 t80 (.bool false) H fun t81 H =>
  guardA t81 true (pO (aNil t0) H fun t84 H =>
  pFa 11 t84 H fun t85 H =>
  ldK .none H t85 fun t86 H =>
  pNeq t86 (.int .i64 (.ofNat 4)) H fun t87 H =>
  S13_1 call t0 t1 t2 t7 t9 t11 t81 t87 H) (S13_1 call t0 t1 t2 t7 t9 t11 t81 U H)
noncomputable def S13_3 (call : CallFn) (t0 t1 t2 t7 t20 t24 : AV) (H : AHeap) : R :=
  pPick t20 (.bool true) t24 H fun t25 H =>
  onBool t25 (some ((.bool false), H)) (pO (aNil t0) H fun t27 H =>
  pFa 7 t27 H fun t28 H =>
  ldK .none H t28 fun t29 H =>
  pC call 45 [t29, t1] H fun t31 H =>
  pO (aNil t0) H fun t35 H =>
  pFa 0 t35 H fun t36 H =>
  ldK (.some 6) H t36 fun t37 H =>
  pC call 46 [t31, t37] H fun t38 H =>
  pExt t38 0 H fun t39 H =>
  pExt t38 1 H fun _ H =>
  pNew [(.int .i64 (.ofNat 0)), (.int .i64 (.ofNat 0)), (.int .i64 (.ofNat 0)), (.int .i64 (.ofNat 0)), (.int .i64 (.ofNat 0))] H fun t9 H =>
  stK 5 H t9 t39 fun _ H =>
  pC call 47 [t31] H fun t43 H =>
  pExt t43 0 H fun t44 H =>
  pExt t43 1 H fun _ H =>
  pNew [(.int .i64 (.ofNat 0)), (.int .i64 (.ofNat 0)), .nilsl] H fun t11 H =>
  stK 3 H t11 t44 fun _ H =>
  pFa 0 t9 H fun t46 H =>
  ldK .none H t46 fun t47 H =>
  pC call 49 [t31] H fun t49 H =>
  andR (andB (ckV (aLoad .none H t46) t47) true) (
  pC call 48 [t47, t49] H fun t50 H =>
  ldK (.some 5) H t9 fun t54 H =>
  pO (aNil t0) H fun t56 H =>
  pFa 0 t56 H fun t57 H =>
  pFa 4 t57 H fun t58 H =>
  ldK .none H t58 fun t59 H =>
  pFa 0 t11 H fun t60 H =>
  ldK .none H t60 fun t61 H =>
  pIa 7 t59 t61 H fun t62 H =>
  ldK (.some 7) H t62 fun t63 H =>
  pFa 1 t11 H fun t64 H =>
  ldK .none H t64 fun t65 H =>
  pIa 3 t7 t2 H fun t68 H =>
  ldK (.some 3) H t68 fun t69 H =>
  pO (someAgg (aFill [.nilp, (.int .i64 (.ofNat 0)), .nilp, (.int .i64 (.ofNat 0)), (.int .i64 (.ofNat 0)), (.int .i64 (.ofNat 0)), (.int .i64 (.ofNat 0)), (.int .i64 (.ofNat 0)), (.int .i64 (.ofNat 0)), (.int .i64 (.ofNat 0)), (.int .i64 (.ofNat 0)), (.int .i64 (.ofNat 0)), .nilsl, .nilsl, .nilsl, (.int .i64 (.ofNat 0)), (.int .i64 (.ofNat 0)), (.int .i64 (.ofNat 0)), (.int .i64 (.ofNat 0))] [(0, 1, t0), (1, 1, t1), (2, 1, t31), (3, 5, t54), (8, 7, t63), (15, 1, t65), (16, 3, t69)])) H fun t70 H =>
  pBox t70 H fun t71 H =>
  pC call 50 [t71] H fun _ H =>
  guardA t50 true (pO (aNil t0) H fun t77 H =>
  pFa 11 t77 H fun t78 H =>
  ldK .none H t78 fun t79 H =>
  pNeq t79 (.int .i64 (.ofNat 2)) H fun t80 H =>
  S13_2 call t0 t1 t2 t7 t9 t11 t50 t80 H) (S13_2 call t0 t1 t2 t7 t9 t11 t50 U H)))
noncomputable def S13_4 (call : CallFn) (t0 t1 t2 : AV) (H : AHeap) : R :=
  pC call 44 [t0, t1] H fun t17 H =>
  pLss t2 (.int .i64 (.ofNat 0)) H fun t19 H =>
  guardA t19 false (pO (aLen .sl H t17) H fun t23 H =>
  pGeq t2 t23 H fun t24 H =>
  S13_3 call t0 t1 t2 t17 t19 t24 H) (S13_3 call t0 t1 t2 t17 t19 U H)
noncomputable def S13 : Ff := ⟨fun call l H => argA3 (fun t0 t1 t2 => S13_4 call t0 t1 t2 H) l⟩
/- (*gantline/vm.Machine).End -/
noncomputable def S14_0 (_ : CallFn) (t0 : AV) (H : AHeap) : R :=
  pO (aNil t0) H fun t5 H =>
  pFa 11 t5 H fun t6 H =>
  ldK .none H t6 fun t7 H =>
  pO (aNil t0) H fun t9 H =>
  pFa 12 t9 H fun t10 H =>
  ldK .none H t10 fun t11 H =>
  some (.tup [t7, t11], H)
noncomputable def S14 : Ff := ⟨fun call l H => argA1 (fun t0 => S14_0 call t0 H) l⟩
/- (*gantline/vm.Machine).Acts -/
noncomputable def S15_0 (call : CallFn) (t0 : AV) (H : AHeap) : R :=
  pO (aNil t0) H fun t4 H =>
  pFa 10 t4 H fun t5 H =>
  ldK .none H t5 fun t6 H =>
  pC call 51 [t6] H fun t7 H =>
  some (t7, H)
noncomputable def S15 : Ff := ⟨fun call l H => argA1 (fun t0 => S15_0 call t0 H) l⟩
/- (*gantline/vm.Machine).Enabled -/
noncomputable def S17_0 (call : CallFn) (t0 : AV) (H : AHeap) : R :=
  pO (aNil t0) H fun t4 H =>
  pFa 11 t4 H fun t5 H =>
  ldK .none H t5 fun t6 H =>
  pNeq t6 (.int .i64 (.ofNat 0)) H fun t7 H =>
  onBool t7 (some (.nilsl, H)) (pO (aNil t0) H fun t9 H =>
  pFa 7 t9 H fun t10 H =>
  ldK .none H t10 fun t11 H =>
  pO (aNil t0) H fun t13 H =>
  pFa 6 t13 H fun t14 H =>
  ldK .none H t14 fun t15 H =>
  pC call 52 [t11, t15] H fun t16 H =>
  some (t16, H))
noncomputable def S17 : Ff := ⟨fun call l H => argA1 (fun t0 => S17_0 call t0 H) l⟩
/- (*gantline/vm.Machine).Collect -/
noncomputable def S18_0 (call : CallFn) (t0 : AV) (H : AHeap) : R :=
  pO (aNil t0) H fun t5 H =>
  pFa 11 t5 H fun t6 H =>
  ldK .none H t6 fun t7 H =>
  pNeq t7 (.int .i64 (.ofNat 0)) H fun t8 H =>
  onBool t8 (some ((.bool false), H)) (pO (aNil t0) H fun t10 H =>
  pFa 6 t10 H fun t11 H =>
  ldK .none H t11 fun t12 H =>
  pC call 22 [t12] H fun t13 H =>
  pC call 53 [t13, (.iface 23 t0)] H fun t17 H =>
  pO (aUn .not t17) H fun t18 H =>
  onBool t18 (pC call 54 [t13, (.iface 23 t0)] H fun _ H =>
  some ((.bool true), H)) (some ((.bool true), H)))
noncomputable def S18 : Ff := ⟨fun call l H => argA1 (fun t0 => S18_0 call t0 H) l⟩
/- (*gantline/vm.Machine).Ways -/
noncomputable def S19_0 (call : CallFn) (t0 t1 : AV) (H : AHeap) : R :=
  pC call 44 [t0, t1] H fun t7 H =>
  pO (aLen .sl H t7) H fun t8 H =>
  some (t8, H)
noncomputable def S19 : Ff := ⟨fun call l H => argA2 (fun t0 t1 => S19_0 call t0 t1 H) l⟩
/- (*gantline/vm.Machine).Sound -/
noncomputable def S20_1 (_ : CallFn) (q0 : AV → AV → AV → AV → AV → AHeap → R) (t1 t3 t12 t13 t14 t21 t31 : AV) (H : AHeap) : R :=
  pPick t21 (.bool true) t31 H fun t32 H =>
  onBool t32 (some ((.bool false), H)) (pAdd t14 (.int .i64 (.ofNat 1)) H fun t33 H =>
  q0 t1 t3 t12 t13 t33 H)
noncomputable def S20_0 (call : CallFn) (n : Nat) : AV → AV → AV → AV → AV → AHeap → R :=
  Nat.rec (motive := fun _ => AV → AV → AV → AV → AV → AHeap → R) (fun _ _ _ _ _ _ => none) (fun _ q0 t1 t3 t12 t13 t14 H => pLss t14 t13 H fun t15 H =>
  onBool t15 (pIa 1 t12 t14 H fun t16 H =>
  ldK .none H t16 fun t17 H =>
  pV call t3 [t17] H fun t20 H =>
  guardA t20 false (ldK .none H t1 fun t22 H =>
  pO (aNil t22) H fun t23 H =>
  pFa 6 t23 H fun t24 H =>
  ldK .none H t24 fun t25 H =>
  pC call 22 [t25] H fun t26 H =>
  pC call 58 [t26] H fun t27 H =>
  pC call 59 [t27, t17] H fun t29 H =>
  pC call 56 [t29, t3] H fun t31 H =>
  S20_1 call q0 t1 t3 t12 t13 t14 t20 t31 H) (S20_1 call q0 t1 t3 t12 t13 t14 t20 U H)) (some ((.bool true), H))) n
noncomputable def S20_2 (call : CallFn) (t0 : AV) (H : AHeap) : R :=
  pBox t0 H fun t1 H =>
  ldK .none H t1 fun t7 H =>
  pC call 57 [t7] H fun t8 H =>
  pC call 56 [t8, (.fn 55 [] [t1])] H fun t10 H =>
  onBool t10 (some ((.bool false), H)) (ldK .none H t1 fun t11 H =>
  pC call 24 [t11] H fun t12 H =>
  pO (aLen .sl H t12) H fun t13 H =>
  S20_0 call 1000000 t1 (.fn 55 [] [t1]) t12 t13 (.int .i64 (.ofNat 0)) H)
noncomputable def S20 : Ff := ⟨fun call l H => argA1 (fun t0 => S20_2 call t0 H) l⟩
/- (*gantline/vm.Machine).Heap -/
noncomputable def S21_0 (_ : CallFn) (t0 : AV) (H : AHeap) : R :=
  pO (aNil t0) H fun t4 H =>
  pFa 6 t4 H fun t5 H =>
  ldK .none H t5 fun t6 H =>
  some (t6, H)
noncomputable def S21 : Ff := ⟨fun call l H => argA1 (fun t0 => S21_0 call t0 H) l⟩
/- (*gantline/heap.Heap).Cycle -/
noncomputable def S22_0 (_ : CallFn) (t0 : AV) (H : AHeap) : R :=
  pO (aNil t0) H fun t4 H =>
  pFa 0 t4 H fun t5 H =>
  ldK .none H t5 fun t6 H =>
  some (t6, H)
noncomputable def S22 : Ff := ⟨fun call l H => argA1 (fun t0 => S22_0 call t0 H) l⟩
/- (*gantline/cycle.Cycle).Arena -/
noncomputable def S23_0 (_ : CallFn) (t0 : AV) (H : AHeap) : R :=
  pO (aNil t0) H fun t4 H =>
  pFa 0 t4 H fun t5 H =>
  ldK .none H t5 fun t6 H =>
  some (t6, H)
noncomputable def S23 : Ff := ⟨fun call l H => argA1 (fun t0 => S23_0 call t0 H) l⟩
/- (*gantline/vm.Machine).Live -/
noncomputable def S24_0 (call : CallFn) (t0 : AV) (H : AHeap) : R :=
  pO (aNil t0) H fun t4 H =>
  pFa 6 t4 H fun t5 H =>
  ldK .none H t5 fun t6 H =>
  pC call 22 [t6] H fun t7 H =>
  pC call 58 [t7] H fun t8 H =>
  pC call 57 [t0] H fun t10 H =>
  pC call 60 [t8, t10] H fun t11 H =>
  some (t11, H)
noncomputable def S24 : Ff := ⟨fun call l H => argA1 (fun t0 => S24_0 call t0 H) l⟩
/- (*gantline/vm.Machine).Out -/
noncomputable def S26_0 (call : CallFn) (t0 : AV) (H : AHeap) : R :=
  pO (aNil t0) H fun t4 H =>
  pFa 9 t4 H fun t5 H =>
  ldK .none H t5 fun t6 H =>
  pC call 62 [t6] H fun t7 H =>
  some (t7, H)
noncomputable def S26 : Ff := ⟨fun call l H => argA1 (fun t0 => S26_0 call t0 H) l⟩
/- gantline/gantlineref17.Nums -/
noncomputable def S30_0 (_ : CallFn) (n : Nat) : AV → AV → AV → AHeap → R :=
  Nat.rec (motive := fun _ => AV → AV → AV → AHeap → R) (fun _ _ _ _ => none) (fun _ q0 t0 t1 t5 H => pO (aLen .sl H t0) H fun t13 H =>
  pLss t5 t13 H fun t14 H =>
  onBool t14 (pIa 1 t0 t5 H fun t19 H =>
  ldK .none H t19 fun t20 H =>
  pIa 1 t1 t5 H fun t23 H =>
  ldK .none H t23 fun t24 H =>
  pNeq t20 t24 H fun t25 H =>
  onBool t25 (some ((.bool false), H)) (pAdd t5 (.int .i64 (.ofNat 1)) H fun t16 H =>
  q0 t0 t1 t16 H)) (some ((.bool true), H))) n
noncomputable def S30_1 (call : CallFn) (t0 t1 : AV) (H : AHeap) : R :=
  pO (aLen .sl H t0) H fun t7 H =>
  pO (aLen .sl H t1) H fun t9 H =>
  pNeq t7 t9 H fun t10 H =>
  onBool t10 (some ((.bool false), H)) (S30_0 call 1000000 t0 t1 (.int .i64 (.ofNat 0)) H)
noncomputable def S30 : Ff := ⟨fun call l H => argA2 (fun t0 t1 => S30_1 call t0 t1 H) l⟩
/- gantline/live.Maps -/
noncomputable def S31_0 (_ : CallFn) (n : Nat) : AV → AV → AV → AV → AHeap → R :=
  Nat.rec (motive := fun _ => AV → AV → AV → AV → AHeap → R) (fun _ _ _ _ _ => none) (fun _ q0 t5 t8 t34 t35 H => pLss t35 t34 H fun t36 H =>
  onBool t36 (pIa 1 t8 t35 H fun t40 H =>
  ldK .none H t40 fun t41 H =>
  pAnd t41 t5 H fun t43 H =>
  pIa 1 t8 t35 H fun t44 H =>
  stK 1 H t44 t43 fun _ H =>
  pAdd t35 (.int .i64 (.ofNat 1)) H fun t45 H =>
  q0 t5 t8 t34 t45 H) (some (t8, H))) n
noncomputable def S31_1 (call : CallFn) (t2 t3 t5 : AV) (H : AHeap) : R :=
  ldK (.some 6) H t2 fun t30 H =>
  ldK (.some 7) H t3 fun t31 H =>
  pC call 63 [t30, t31] H fun t32 H =>
  pO (aLen .sl H t32) H fun t34 H =>
  S31_0 call 1000000 t5 t32 t34 (.int .i64 (.ofNat 0)) H
noncomputable def S31_3 (_ : CallFn) (q1 : AV → AV → AV → AV → AV → AV → AHeap → R) (t2 t3 t5 t16 t17 t18 : AV) (H : AHeap) : R :=
  pAdd t18 (.int .i64 (.ofNat 1)) H fun t29 H =>
  q1 t2 t3 t5 t16 t17 t29 H
noncomputable def S31_2 (call : CallFn) (n : Nat) : AV → AV → AV → AV → AV → AV → AHeap → R :=
  Nat.rec (motive := fun _ => AV → AV → AV → AV → AV → AV → AHeap → R) (fun _ _ _ _ _ _ _ => none) (fun _ q1 t2 t3 t5 t16 t17 t18 H => pLss t18 t17 H fun t19 H =>
  onBool t19 (pIa 1 t16 t18 H fun t21 H =>
  ldK .none H t21 fun t22 H =>
  onBool t22 (pConv .u64 t18 H fun t26 H =>
  pO (aBin .shl (.int .u64 (.ofNat 1)) t26) H fun t27 H =>
  pOr t5 t27 H fun t28 H =>
  S31_3 call q1 t2 t3 t28 t16 t17 t18 H) (S31_3 call q1 t2 t3 t5 t16 t17 t18 H)) (S31_1 call t2 t3 t5 H)) n
noncomputable def S31_4 (call : CallFn) (t0 t1 : AV) (H : AHeap) : R :=
  pBox t0 H fun t2 H =>
  pBox t1 H fun t3 H =>
  pFa 4 t3 H fun t10 H =>
  ldK .none H t10 fun t11 H =>
  pFa 4 t3 H fun t12 H =>
  ldK .none H t12 fun t13 H =>
  pO (aLen .sl H t13) H fun t14 H =>
  pO (aMinMax false t14 (.int .i64 (.ofNat 64))) H fun t15 H =>
  pO (aSlice 1 H t11 .none (.some t15) .none) H fun t16 H =>
  pO (aLen .sl H t16) H fun t17 H =>
  S31_2 call 1000000 t2 t3 (.int .u64 (.ofNat 0)) t16 t17 (.int .i64 (.ofNat 0)) H
noncomputable def S31 : Ff := ⟨fun call l H => argA2 (fun t0 t1 => S31_4 call t0 t1 H) l⟩
/- (*gantline/arena.Arena).Class -/
noncomputable def S33_0 (call : CallFn) (t0 t1 : AV) (H : AHeap) : R :=
  pC call 64 [t0, t1] H fun t7 H =>
  pO (aUn .not t7) H fun t8 H =>
  onBool t8 (some ((.int .i64 (.negSucc 0)), H)) (pO (aNil t0) H fun t10 H =>
  pFa 1 t10 H fun t11 H =>
  ldK .none H t11 fun t12 H =>
  pIa 3 t12 t1 H fun t14 H =>
  pFa 0 t14 H fun t15 H =>
  ldK .none H t15 fun t16 H =>
  some (t16, H))
noncomputable def S33 : Ff := ⟨fun call l H => argA2 (fun t0 t1 => S33_0 call t0 t1 H) l⟩
/- (*gantline/vm.Machine).Stacks -/
noncomputable def S37_0 (call : CallFn) (t0 : AV) (H : AHeap) : R :=
  pO (aNil t0) H fun t4 H =>
  pFa 7 t4 H fun t5 H =>
  ldK .none H t5 fun t6 H =>
  pC call 85 [t6] H fun t7 H =>
  some (t7, H)
noncomputable def S37 : Ff := ⟨fun call l H => argA1 (fun t0 => S37_0 call t0 H) l⟩
/- gantline/verify.Module -/
noncomputable def S38_0 (call : CallFn) (t0 : AV) (H : AHeap) : R :=
  pBox t0 H fun t1 H =>
  ldK (.some 6) H t1 fun t6 H =>
  pC call 86 [t6] H fun t7 H =>
  pExt t7 0 H fun t8 H =>
  pExt t7 1 H fun t9 H =>
  pNew [(.int .i64 (.ofNat 0)), (.int .i64 (.ofNat 0)), (.int .i64 (.ofNat 0))] H fun t3 H =>
  stK 3 H t3 t8 fun _ H =>
  some (t9, H)
noncomputable def S38 : Ff := ⟨fun call l H => argA1 (fun t0 => S38_0 call t0 H) l⟩
/- gantline/heap.New -/
noncomputable def S39_0 (call : CallFn) (t1 t8 : AV) (H : AHeap) : R :=
  pC call 90 [t1] H fun t42 H =>
  pO (aNil t8) H fun t43 H =>
  pFa 1 t43 H fun t44 H =>
  stK 1 H t44 t42 fun _ H =>
  some (.tup [t8, (.int .i64 (.ofNat 0))], H)
noncomputable def S39_1 (call : CallFn) (n : Nat) : AV → AV → AV → AV → AV → AV → AHeap → R :=
  Nat.rec (motive := fun _ => AV → AV → AV → AV → AV → AV → AHeap → R) (fun _ _ _ _ _ _ _ => none) (fun _ q0 t1 t6 t8 t24 t25 t26 H => pLss t26 t25 H fun t27 H =>
  onBool t27 (pIa 3 t24 t26 H fun t28 H =>
  ldK (.some 3) H t28 fun t29 H =>
  pNew [(.int .i64 (.ofNat 0)), (.int .i64 (.ofNat 0)), (.int .u64 (.ofNat 0))] H fun t10 H =>
  stK 3 H t10 t29 fun _ H =>
  ldK (.some 3) H t10 fun t33 H =>
  pC call 88 [t6] H fun t32 H =>
  andR (andB (ckV (aLoad (.some 3) H t10) t33) true) (
  pC call 89 [t32, t33] H fun t34 H =>
  pExt t34 0 H fun _ H =>
  pExt t34 1 H fun t36 H =>
  pNeq t36 (.int .i64 (.ofNat 0)) H fun t38 H =>
  onBool t38 (some (.tup [.nilp, (.int .i64 (.ofNat 1))], H)) (pAdd t26 (.int .i64 (.ofNat 1)) H fun t39 H =>
  q0 t1 t6 t8 t24 t25 t39 H))) (S39_0 call t1 t8 H)) n
noncomputable def S39_2 (call : CallFn) (t0 t1 : AV) (H : AHeap) : R :=
  pC call 87 [t0] H fun t15 H =>
  pExt t15 0 H fun t16 H =>
  pExt t15 1 H fun t17 H =>
  pNeq t17 (.int .i64 (.ofNat 0)) H fun t19 H =>
  onBool t19 (some (.tup [.nilp, t17], H)) (pO (someAgg (aFill [.nilp, .nilsl, (.int .i64 (.ofNat 0))] [(0, 1, t16)])) H fun t22 H =>
  pBox t22 H fun t23 H =>
  pO (aLen .sl H t1) H fun t25 H =>
  S39_1 call 1000000 t1 t16 t23 t1 t25 (.int .i64 (.ofNat 0)) H)
noncomputable def S39 : Ff := ⟨fun call l H => argA2 (fun t0 t1 => S39_2 call t0 t1 H) l⟩
/- gantline/vm.clone -/
noncomputable def S40_0 (_ : CallFn) (t1 t2 : AV) (H : AHeap) : R :=
  ldK (.some 6) H t1 fun t60 H =>
  stK 6 H t2 t60 fun _ H =>
  ob (allM (fun o => o) [aLoad (.some 6) H t2]) fun vs => some (resV vs, H)
noncomputable def S40_1 (call : CallFn) (n : Nat) : AV → AV → AV → AV → AHeap → R :=
  Nat.rec (motive := fun _ => AV → AV → AV → AV → AHeap → R) (fun _ _ _ _ _ => none) (fun _ q0 t1 t2 t27 t28 H => pLss t28 t27 H fun t29 H =>
  onBool t29 (pFa 4 t1 H fun t31 H =>
  ldK .none H t31 fun t32 H =>
  pIa 7 t32 t28 H fun t34 H =>
  pO (aNil t34) H fun t39 H =>
  pFa 4 t39 H fun t40 H =>
  ldK .none H t40 fun t41 H =>
  pO (aNil t34) H fun t44 H =>
  pFa 5 t44 H fun t45 H =>
  ldK .none H t45 fun t46 H =>
  pO (aNil t34) H fun t49 H =>
  pFa 6 t49 H fun t50 H =>
  ldK .none H t50 fun t51 H =>
  pC call 91 [t41] H fun t42 H =>
  andR (andB (ckV (aLoad .none H t45) t46) (andB (ckV (aLoad .none H t50) t51) true)) (
  pC call 94 [t46] H fun t47 H =>
  andR (andB (ckV (aLoad .none H t50) t51) true) (
  pC call 95 [t51] H fun t52 H =>
  pO (aNil t34) H fun t53 H =>
  pFa 4 t53 H fun t54 H =>
  stK 1 H t54 t42 fun _ H =>
  pO (aNil t34) H fun t55 H =>
  pFa 5 t55 H fun t56 H =>
  stK 1 H t56 t47 fun _ H =>
  pO (aNil t34) H fun t57 H =>
  pFa 6 t57 H fun t58 H =>
  stK 1 H t58 t52 fun _ H =>
  pAdd t28 (.int .i64 (.ofNat 1)) H fun t59 H =>
  q0 t1 t2 t27 t59 H))) (S40_0 call t1 t2 H)) n
noncomputable def S40_2 (call : CallFn) (t0 : AV) (H : AHeap) : R :=
  pBox t0 H fun t1 H =>
  pNew [.nilsl, .nilsl, .nilsl, .nilsl, .nilsl, (.int .i64 (.ofNat 0))] H fun t2 H =>
  pFa 0 t1 H fun t5 H =>
  ldK .none H t5 fun t6 H =>
  pFa 1 t1 H fun t8 H =>
  ldK .none H t8 fun t9 H =>
  pFa 2 t1 H fun t11 H =>
  ldK .none H t11 fun t12 H =>
  pFa 3 t1 H fun t14 H =>
  ldK .none H t14 fun t15 H =>
  pC call 90 [t6] H fun t7 H =>
  andR (andB (ckV (aLoad .none H t8) t9) (andB (ckV (aLoad .none H t11) t12) (andB (ckV (aLoad .none H t14) t15) true))) (
  pFa 0 t1 H fun t17 H =>
  pC call 91 [t9] H fun t10 H =>
  andR (andB (ckV (aLoad .none H t11) t12) (andB (ckV (aLoad .none H t14) t15) true)) (
  pC call 62 [t12] H fun t13 H =>
  andR (andB (ckV (aLoad .none H t14) t15) true) (
  pC call 92 [t15] H fun t16 H =>
  stK 1 H t17 t7 fun _ H =>
  pFa 1 t1 H fun t18 H =>
  stK 1 H t18 t10 fun _ H =>
  pFa 2 t1 H fun t19 H =>
  stK 1 H t19 t13 fun _ H =>
  pFa 3 t1 H fun t20 H =>
  stK 1 H t20 t16 fun _ H =>
  pFa 4 t1 H fun t21 H =>
  ldK .none H t21 fun t22 H =>
  pC call 93 [t22] H fun t23 H =>
  pFa 4 t1 H fun t24 H =>
  stK 1 H t24 t23 fun _ H =>
  pFa 4 t1 H fun t25 H =>
  ldK .none H t25 fun t26 H =>
  pO (aLen .sl H t26) H fun t27 H =>
  S40_1 call 1000000 t1 t2 t27 (.int .i64 (.ofNat 0)) H)))
noncomputable def S40 : Ff := ⟨fun call l H => argA1 (fun t0 => S40_2 call t0 H) l⟩
/- gantline/sched.New -/
noncomputable def S41_0 (_ : CallFn) (t0 : AV) (H : AHeap) : R :=
  pBox t0 H fun t1 H =>
  ldK (.some 6) H t1 fun t3 H =>
  pMap H fun t4 H =>
  pO (someAgg (aFill [.nilsl, .nilsl, .nilsl, .nilsl, .nilsl, (.int .i64 (.ofNat 0)), .nilmap, (.int .i64 (.ofNat 0))] [(0, 6, t3), (6, 1, t4)])) H fun t5 H =>
  pBox t5 H fun t6 H =>
  some (t6, H)
noncomputable def S41 : Ff := ⟨fun call l H => argA1 (fun t0 => S41_0 call t0 H) l⟩
/- (*gantline/sched.Table).Add -/
noncomputable def S42_0 (call : CallFn) (t0 t1 t2 : AV) (H : AHeap) : R :=
  pO (aNil t0) H fun t11 H =>
  pFa 6 t11 H fun t12 H =>
  ldK .none H t12 fun t13 H =>
  pO (aLen .map H t13) H fun t14 H =>
  pGeq t14 (.int .i64 (.ofNat 64)) H fun t15 H =>
  onBool t15 (some (.tup [(.int .i64 (.ofNat 0)), (.int .i64 (.ofNat 2))], H)) (pO (aNil t0) H fun t18 H =>
  pFa 0 t18 H fun t19 H =>
  ldK (.some 6) H t19 fun t20 H =>
  pC call 96 [t20, t1, t2] H fun t23 H =>
  pExt t23 0 H fun t24 H =>
  pExt t23 1 H fun t25 H =>
  pNeq t25 (.int .i64 (.ofNat 0)) H fun t27 H =>
  onBool t27 (some (.tup [(.int .i64 (.ofNat 0)), t25], H)) (pO (aNil t0) H fun t30 H =>
  pFa 7 t30 H fun t31 H =>
  ldK .none H t31 fun t32 H =>
  pAdd t32 (.int .i64 (.ofNat 1)) H fun t33 H =>
  pO (aNil t0) H fun t34 H =>
  pFa 7 t34 H fun t35 H =>
  stK 1 H t35 t33 fun _ H =>
  pO (aNil t0) H fun t37 H =>
  pFa 6 t37 H fun t38 H =>
  ldK .none H t38 fun t39 H =>
  pO (aNil t0) H fun t41 H =>
  pFa 7 t41 H fun t42 H =>
  ldK .none H t42 fun t43 H =>
  pW (unitW (aMapUp .int H t39 t43 t24)) fun _ H =>
  pO (aNil t0) H fun t46 H =>
  pFa 7 t46 H fun t47 H =>
  ldK .none H t47 fun t48 H =>
  some (.tup [t48, (.int .i64 (.ofNat 0))], H)))
noncomputable def S42 : Ff := ⟨fun call l H => argA3 (fun t0 t1 t2 => S42_0 call t0 t1 t2 H) l⟩
/- (*gantline/vm.Machine).settle -/
noncomputable def S43_0 (_ : CallFn) (t0 t7 t18 : AV) (H : AHeap) : R :=
  pPick t7 t18 (.bool false) H fun t19 H =>
  onBool t19 (pO (aNil t0) H fun t21 H =>
  pFa 11 t21 H fun t22 H =>
  stK 1 H t22 (.int .i64 (.ofNat 3)) fun _ H =>
  some (.tup [], H)) (some (.tup [], H))
noncomputable def S43_1 (call : CallFn) (t0 t7 t17 : AV) (H : AHeap) : R :=
  guardA t7 true (pEql t17 (.int .i64 (.ofNat 0)) H fun t18 H =>
  S43_0 call t0 t7 t18 H) (S43_0 call t0 t7 U H)
noncomputable def S43_2 (call : CallFn) (t0 t7 t16 : AV) (H : AHeap) : R :=
  guardA t7 true (pO (aLen .sl H t16) H fun t17 H =>
  S43_1 call t0 t7 t17 H) (S43_1 call t0 t7 U H)
noncomputable def S43_3 (call : CallFn) (t0 t7 t11 t15 : AV) (H : AHeap) : R :=
  guardA t7 true (pC call 52 [t11, t15] H fun t16 H =>
  S43_2 call t0 t7 t16 H) (S43_2 call t0 t7 U H)
noncomputable def S43_4 (call : CallFn) (t0 t7 t11 t14 : AV) (H : AHeap) : R :=
  guardA t7 true (ldK .none H t14 fun t15 H =>
  S43_3 call t0 t7 t11 t15 H) (S43_3 call t0 t7 t11 U H)
noncomputable def S43_5 (call : CallFn) (t0 t7 t11 t13 : AV) (H : AHeap) : R :=
  guardA t7 true (pFa 6 t13 H fun t14 H =>
  S43_4 call t0 t7 t11 t14 H) (S43_4 call t0 t7 t11 U H)
noncomputable def S43_6 (call : CallFn) (t0 t7 t11 t12 : AV) (H : AHeap) : R :=
  guardA t7 true (pO (aNil t12) H fun t13 H =>
  S43_5 call t0 t7 t11 t13 H) (S43_5 call t0 t7 t11 U H)
noncomputable def S43_7 (call : CallFn) (t0 t7 t11 : AV) (H : AHeap) : R :=
  guardA t7 true (S43_6 call t0 t7 t11 t0 H) (S43_6 call t0 t7 t11 U H)
noncomputable def S43_8 (call : CallFn) (t0 t7 t10 : AV) (H : AHeap) : R :=
  guardA t7 true (ldK .none H t10 fun t11 H =>
  S43_7 call t0 t7 t11 H) (S43_7 call t0 t7 U H)
noncomputable def S43_9 (call : CallFn) (t0 t7 t9 : AV) (H : AHeap) : R :=
  guardA t7 true (pFa 7 t9 H fun t10 H =>
  S43_8 call t0 t7 t10 H) (S43_8 call t0 t7 U H)
noncomputable def S43_10 (call : CallFn) (t0 t7 t8 : AV) (H : AHeap) : R :=
  guardA t7 true (pO (aNil t8) H fun t9 H =>
  S43_9 call t0 t7 t9 H) (S43_9 call t0 t7 U H)
noncomputable def S43_11 (call : CallFn) (t0 : AV) (H : AHeap) : R :=
  pO (aNil t0) H fun t3 H =>
  pFa 11 t3 H fun t4 H =>
  ldK .none H t4 fun t5 H =>
  pEql t5 (.int .i64 (.ofNat 0)) H fun t6 H =>
  guardA t6 true (S43_10 call t0 t6 t0 H) (S43_10 call t0 t6 U H)
noncomputable def S43 : Ff := ⟨fun call l H => argA1 (fun t0 => S43_11 call t0 H) l⟩
/- (*gantline/vm.Machine).WaysOf -/
noncomputable def S44_0 (call : CallFn) (t0 t1 : AV) (H : AHeap) : R :=
  pO (aNil t0) H fun t6 H =>
  pFa 11 t6 H fun t7 H =>
  ldK .none H t7 fun t8 H =>
  pNeq t8 (.int .i64 (.ofNat 0)) H fun t9 H =>
  onBool t9 (some (.nilsl, H)) (pO (aNil t0) H fun t11 H =>
  pFa 7 t11 H fun t12 H =>
  ldK .none H t12 fun t13 H =>
  pO (aNil t0) H fun t15 H =>
  pFa 6 t15 H fun t16 H =>
  ldK .none H t16 fun t17 H =>
  pC call 97 [t13, t17, t1] H fun t19 H =>
  some (t19, H))
noncomputable def S44 : Ff := ⟨fun call l H => argA2 (fun t0 t1 => S44_0 call t0 t1 H) l⟩
/- (*gantline/sched.Table).Stack -/
noncomputable def S45_0 (_ : CallFn) (t0 t1 : AV) (H : AHeap) : R :=
  pO (aNil t0) H fun t6 H =>
  pFa 6 t6 H fun t7 H =>
  ldK .none H t7 fun t8 H =>
  pO (aLook .int .nilp false H t8 t1) H fun t10 H =>
  some (t10, H)
noncomputable def S45 : Ff := ⟨fun call l H => argA2 (fun t0 t1 => S45_0 call t0 t1 H) l⟩
/- (*gantline/frame.Stack).At -/
noncomputable def S46_0 (_ : CallFn) (t3 t4 t6 t35 t50 : AV) (H : AHeap) : R :=
  pPick t35 (.bool true) t50 H fun t51 H =>
  onBool t51 (pO (someAgg (aFill [(.int .i64 (.ofNat 0)), (.int .i64 (.ofNat 0)), (.int .i64 (.ofNat 0)), (.int .i64 (.ofNat 0)), (.int .i64 (.ofNat 0))] [])) H fun t52 H =>
  stK 5 H t4 t52 fun _ H =>
  ob (allM (fun o => o) [aLoad (.some 5) H t4, some (.bool false)]) fun vs => some (resV vs, H)) (pFa 4 t3 H fun t53 H =>
  ldK .none H t53 fun t54 H =>
  pO (aNil t6) H fun t56 H =>
  pFa 0 t56 H fun t57 H =>
  ldK .none H t57 fun t58 H =>
  pIa 7 t54 t58 H fun t59 H =>
  pFa 5 t59 H fun t60 H =>
  ldK .none H t60 fun t61 H =>
  pO (aNil t6) H fun t63 H =>
  pFa 1 t63 H fun t64 H =>
  ldK .none H t64 fun t65 H =>
  pIa 5 t61 t65 H fun t66 H =>
  ldK (.some 5) H t66 fun t67 H =>
  stK 5 H t4 t67 fun _ H =>
  ob (allM (fun o => o) [aLoad (.some 5) H t4, some (.bool true)]) fun vs => some (resV vs, H))
noncomputable def S46_1 (call : CallFn) (t3 t4 t6 t35 t39 t49 : AV) (H : AHeap) : R :=
  guardA t35 false (pGeq t39 t49 H fun t50 H =>
  S46_0 call t3 t4 t6 t35 t50 H) (S46_0 call t3 t4 t6 t35 U H)
noncomputable def S46_2 (call : CallFn) (t3 t4 t6 t35 t39 t48 : AV) (H : AHeap) : R :=
  guardA t35 false (pO (aLen .sl H t48) H fun t49 H =>
  S46_1 call t3 t4 t6 t35 t39 t49 H) (S46_1 call t3 t4 t6 t35 t39 U H)
noncomputable def S46_3 (call : CallFn) (t3 t4 t6 t35 t39 t47 : AV) (H : AHeap) : R :=
  guardA t35 false (ldK .none H t47 fun t48 H =>
  S46_2 call t3 t4 t6 t35 t39 t48 H) (S46_2 call t3 t4 t6 t35 t39 U H)
noncomputable def S46_4 (call : CallFn) (t3 t4 t6 t35 t39 t46 : AV) (H : AHeap) : R :=
  guardA t35 false (pFa 5 t46 H fun t47 H =>
  S46_3 call t3 t4 t6 t35 t39 t47 H) (S46_3 call t3 t4 t6 t35 t39 U H)
noncomputable def S46_5 (call : CallFn) (t3 t4 t6 t35 t39 t41 t45 : AV) (H : AHeap) : R :=
  guardA t35 false (pIa 7 t41 t45 H fun t46 H =>
  S46_4 call t3 t4 t6 t35 t39 t46 H) (S46_4 call t3 t4 t6 t35 t39 U H)
noncomputable def S46_6 (call : CallFn) (t3 t4 t6 t35 t39 t41 t44 : AV) (H : AHeap) : R :=
  guardA t35 false (ldK .none H t44 fun t45 H =>
  S46_5 call t3 t4 t6 t35 t39 t41 t45 H) (S46_5 call t3 t4 t6 t35 t39 t41 U H)
noncomputable def S46_7 (call : CallFn) (t3 t4 t6 t35 t39 t41 t43 : AV) (H : AHeap) : R :=
  guardA t35 false (pFa 0 t43 H fun t44 H =>
  S46_6 call t3 t4 t6 t35 t39 t41 t44 H) (S46_6 call t3 t4 t6 t35 t39 t41 U H)
noncomputable def S46_8 (call : CallFn) (t3 t4 t6 t35 t39 t41 t42 : AV) (H : AHeap) : R :=
  guardA t35 false (pO (aNil t42) H fun t43 H =>
  S46_7 call t3 t4 t6 t35 t39 t41 t43 H) (S46_7 call t3 t4 t6 t35 t39 t41 U H)
noncomputable def S46_9 (call : CallFn) (t3 t4 t6 t35 t39 t41 : AV) (H : AHeap) : R :=
  guardA t35 false (S46_8 call t3 t4 t6 t35 t39 t41 t6 H) (S46_8 call t3 t4 t6 t35 t39 t41 U H)
noncomputable def S46_10 (call : CallFn) (t3 t4 t6 t35 t39 t40 : AV) (H : AHeap) : R :=
  guardA t35 false (ldK .none H t40 fun t41 H =>
  S46_9 call t3 t4 t6 t35 t39 t41 H) (S46_9 call t3 t4 t6 t35 t39 U H)
noncomputable def S46_11 (call : CallFn) (t3 t4 t6 t35 t39 : AV) (H : AHeap) : R :=
  guardA t35 false (pFa 4 t3 H fun t40 H =>
  S46_10 call t3 t4 t6 t35 t39 t40 H) (S46_10 call t3 t4 t6 t35 t39 U H)
noncomputable def S46_12 (call : CallFn) (t3 t4 t6 t35 t38 : AV) (H : AHeap) : R :=
  guardA t35 false (ldK .none H t38 fun t39 H =>
  S46_11 call t3 t4 t6 t35 t39 H) (S46_11 call t3 t4 t6 t35 U H)
noncomputable def S46_13 (call : CallFn) (t3 t4 t6 t35 t37 : AV) (H : AHeap) : R :=
  guardA t35 false (pFa 1 t37 H fun t38 H =>
  S46_12 call t3 t4 t6 t35 t38 H) (S46_12 call t3 t4 t6 t35 U H)
noncomputable def S46_14 (call : CallFn) (t3 t4 t6 t35 t36 : AV) (H : AHeap) : R :=
  guardA t35 false (pO (aNil t36) H fun t37 H =>
  S46_13 call t3 t4 t6 t35 t37 H) (S46_13 call t3 t4 t6 t35 U H)
noncomputable def S46_15 (call : CallFn) (t3 t4 t6 t28 t33 : AV) (H : AHeap) : R :=
  pPick t28 (.bool true) t33 H fun t34 H =>
  guardA t34 false (S46_14 call t3 t4 t6 t34 t6 H) (S46_14 call t3 t4 t6 t34 U H)
noncomputable def S46_16 (call : CallFn) (t3 t4 t6 t28 t32 : AV) (H : AHeap) : R :=
  guardA t28 false (pLss t32 (.int .i64 (.ofNat 0)) H fun t33 H =>
  S46_15 call t3 t4 t6 t28 t33 H) (S46_15 call t3 t4 t6 t28 U H)
noncomputable def S46_17 (call : CallFn) (t3 t4 t6 t28 t31 : AV) (H : AHeap) : R :=
  guardA t28 false (ldK .none H t31 fun t32 H =>
  S46_16 call t3 t4 t6 t28 t32 H) (S46_16 call t3 t4 t6 t28 U H)
noncomputable def S46_18 (call : CallFn) (t3 t4 t6 t28 t30 : AV) (H : AHeap) : R :=
  guardA t28 false (pFa 1 t30 H fun t31 H =>
  S46_17 call t3 t4 t6 t28 t31 H) (S46_17 call t3 t4 t6 t28 U H)
noncomputable def S46_19 (call : CallFn) (t3 t4 t6 t28 t29 : AV) (H : AHeap) : R :=
  guardA t28 false (pO (aNil t29) H fun t30 H =>
  S46_18 call t3 t4 t6 t28 t30 H) (S46_18 call t3 t4 t6 t28 U H)
noncomputable def S46_20 (call : CallFn) (t3 t4 t6 t18 t26 : AV) (H : AHeap) : R :=
  pPick t18 (.bool true) t26 H fun t27 H =>
  guardA t27 false (S46_19 call t3 t4 t6 t27 t6 H) (S46_19 call t3 t4 t6 t27 U H)
noncomputable def S46_21 (call : CallFn) (t3 t4 t6 t18 t22 t25 : AV) (H : AHeap) : R :=
  guardA t18 false (pGeq t22 t25 H fun t26 H =>
  S46_20 call t3 t4 t6 t18 t26 H) (S46_20 call t3 t4 t6 t18 U H)
noncomputable def S46_22 (call : CallFn) (t3 t4 t6 t18 t22 t24 : AV) (H : AHeap) : R :=
  guardA t18 false (pO (aLen .sl H t24) H fun t25 H =>
  S46_21 call t3 t4 t6 t18 t22 t25 H) (S46_21 call t3 t4 t6 t18 t22 U H)
noncomputable def S46_23 (call : CallFn) (t3 t4 t6 t18 t22 t23 : AV) (H : AHeap) : R :=
  guardA t18 false (ldK .none H t23 fun t24 H =>
  S46_22 call t3 t4 t6 t18 t22 t24 H) (S46_22 call t3 t4 t6 t18 t22 U H)
noncomputable def S46_24 (call : CallFn) (t3 t4 t6 t18 t22 : AV) (H : AHeap) : R :=
  guardA t18 false (pFa 4 t3 H fun t23 H =>
  S46_23 call t3 t4 t6 t18 t22 t23 H) (S46_23 call t3 t4 t6 t18 t22 U H)
noncomputable def S46_25 (call : CallFn) (t3 t4 t6 t18 t21 : AV) (H : AHeap) : R :=
  guardA t18 false (ldK .none H t21 fun t22 H =>
  S46_24 call t3 t4 t6 t18 t22 H) (S46_24 call t3 t4 t6 t18 U H)
noncomputable def S46_26 (call : CallFn) (t3 t4 t6 t18 t20 : AV) (H : AHeap) : R :=
  guardA t18 false (pFa 0 t20 H fun t21 H =>
  S46_25 call t3 t4 t6 t18 t21 H) (S46_25 call t3 t4 t6 t18 U H)
noncomputable def S46_27 (call : CallFn) (t3 t4 t6 t18 t19 : AV) (H : AHeap) : R :=
  guardA t18 false (pO (aNil t19) H fun t20 H =>
  S46_26 call t3 t4 t6 t18 t20 H) (S46_26 call t3 t4 t6 t18 U H)
noncomputable def S46_28 (call : CallFn) (t3 t4 t6 t11 t16 : AV) (H : AHeap) : R :=
  pPick t11 (.bool true) t16 H fun t17 H =>
  guardA t17 false (S46_27 call t3 t4 t6 t17 t6 H) (S46_27 call t3 t4 t6 t17 U H)
noncomputable def S46_29 (call : CallFn) (t3 t4 t6 t11 t15 : AV) (H : AHeap) : R :=
  guardA t11 false (pLss t15 (.int .i64 (.ofNat 0)) H fun t16 H =>
  S46_28 call t3 t4 t6 t11 t16 H) (S46_28 call t3 t4 t6 t11 U H)
noncomputable def S46_30 (call : CallFn) (t3 t4 t6 t11 t14 : AV) (H : AHeap) : R :=
  guardA t11 false (ldK .none H t14 fun t15 H =>
  S46_29 call t3 t4 t6 t11 t15 H) (S46_29 call t3 t4 t6 t11 U H)
noncomputable def S46_31 (call : CallFn) (t3 t4 t6 t11 t13 : AV) (H : AHeap) : R :=
  guardA t11 false (pFa 0 t13 H fun t14 H =>
  S46_30 call t3 t4 t6 t11 t14 H) (S46_30 call t3 t4 t6 t11 U H)
noncomputable def S46_32 (call : CallFn) (t3 t4 t6 t11 t12 : AV) (H : AHeap) : R :=
  guardA t11 false (pO (aNil t12) H fun t13 H =>
  S46_31 call t3 t4 t6 t11 t13 H) (S46_31 call t3 t4 t6 t11 U H)
noncomputable def S46_33 (call : CallFn) (t0 t1 : AV) (H : AHeap) : R :=
  pBox t1 H fun t3 H =>
  pNew [(.int .i64 (.ofNat 0)), (.int .i64 (.ofNat 0)), (.int .i64 (.ofNat 0)), (.int .i64 (.ofNat 0)), (.int .i64 (.ofNat 0))] H fun t4 H =>
  pC call 98 [t0] H fun t8 H =>
  pO (aEq false .ptr t8 .nilp) H fun t10 H =>
  guardA t10 false (S46_32 call t3 t4 t8 t10 t8 H) (S46_32 call t3 t4 t8 t10 U H)
noncomputable def S46 : Ff := ⟨fun call l H => argA2 (fun t0 t1 => S46_33 call t0 t1 H) l⟩
/- (*gantline/frame.Stack).Top -/
noncomputable def S47_0 (call : CallFn) (t0 : AV) (H : AHeap) : R :=
  pNew [(.int .i64 (.ofNat 0)), (.int .i64 (.ofNat 0)), .nilsl] H fun t2 H =>
  pC call 98 [t0] H fun t6 H =>
  pO (aEq false .ptr t6 .nilp) H fun t8 H =>
  onBool t8 (pO (someAgg (aFill [(.int .i64 (.ofNat 0)), (.int .i64 (.ofNat 0)), .nilsl] [])) H fun t9 H =>
  stK 3 H t2 t9 fun _ H =>
  ob (allM (fun o => o) [aLoad (.some 3) H t2, some (.bool false)]) fun vs => some (resV vs, H)) (pO (aNil t6) H fun t11 H =>
  ldK (.some 3) H t11 fun t12 H =>
  pC call 99 [t12] H fun t13 H =>
  stK 3 H t2 t13 fun _ H =>
  ob (allM (fun o => o) [aLoad (.some 3) H t2, some (.bool true)]) fun vs => some (resV vs, H))
noncomputable def S47 : Ff := ⟨fun call l H => argA1 (fun t0 => S47_0 call t0 H) l⟩
/- gantline/vm.isAct -/
noncomputable def S48_0 (_ : CallFn) (t15 t21 : AV) (H : AHeap) : R :=
  pPick t15 (.bool true) t21 H fun t22 H =>
  some (t22, H)
noncomputable def S48_1 (call : CallFn) (t15 t18 t20 : AV) (H : AHeap) : R :=
  guardA t15 false (pPick t18 t20 (.bool false) H fun t21 H =>
  S48_0 call t15 t21 H) (S48_0 call t15 U H)
noncomputable def S48_2 (call : CallFn) (t1 t15 t18 : AV) (H : AHeap) : R :=
  guardA t18 true (pEql t1 (.int .i64 (.ofNat 1)) H fun t20 H =>
  S48_1 call t15 t18 t20 H) (S48_1 call t15 t18 U H)
noncomputable def S48_3 (call : CallFn) (t0 t1 t11 t13 : AV) (H : AHeap) : R :=
  pPick t11 t13 (.bool false) H fun t14 H =>
  guardA t14 false (pEql t0 (.int .i64 (.ofNat 22)) H fun t17 H =>
  S48_2 call t1 t14 t17 H) (S48_2 call t1 t14 U H)
noncomputable def S48_4 (call : CallFn) (t0 t1 t7 t9 : AV) (H : AHeap) : R :=
  pPick t7 t9 (.bool false) H fun t10 H =>
  guardA t10 true (pNeq t0 (.int .i64 (.ofNat 36)) H fun t13 H =>
  S48_3 call t0 t1 t10 t13 H) (S48_3 call t0 t1 t10 U H)
noncomputable def S48_5 (call : CallFn) (t0 t1 : AV) (H : AHeap) : R :=
  pGeq t0 (.int .i64 (.ofNat 23)) H fun t6 H =>
  guardA t6 true (pLeq t0 (.int .i64 (.ofNat 42)) H fun t9 H =>
  S48_4 call t0 t1 t6 t9 H) (S48_4 call t0 t1 t6 U H)
noncomputable def S48 : Ff := ⟨fun call l H => argA2 (fun t0 t1 => S48_5 call t0 t1 H) l⟩
/- (*gantline/frame.Stack).Depth -/
noncomputable def S49_0 (_ : CallFn) (t0 : AV) (H : AHeap) : R :=
  pO (aNil t0) H fun t4 H =>
  pFa 0 t4 H fun t5 H =>
  ldK .none H t5 fun t6 H =>
  pO (aLen .sl H t6) H fun t7 H =>
  some (t7, H)
noncomputable def S49 : Ff := ⟨fun call l H => argA1 (fun t0 => S49_0 call t0 H) l⟩
/- (*gantline/vm.doing).do -/
noncomputable def S50_0 (call : CallFn) (t0 : AV) (H : AHeap) : R :=
  pC call 105 [t0] H fun _ H =>
  some (.tup [], H)
noncomputable def S50_1 (call : CallFn) (t0 t2 t35 t37 : AV) (H : AHeap) : R :=
  pPick t35 (.bool true) t37 H fun t38 H =>
  onBool t38 (pC call 102 [t0] H fun _ H =>
  some (.tup [], H)) (pLeq t2 (.int .i64 (.ofNat 35)) H fun t43 H =>
  onBool t43 (pC call 103 [t0] H fun _ H =>
  some (.tup [], H)) (pEql t2 (.int .i64 (.ofNat 42)) H fun t48 H =>
  onBool t48 (pO (aNil t0) H fun t50 H =>
  pFa 0 t50 H fun t51 H =>
  ldK .none H t51 fun t52 H =>
  pO (aNil t52) H fun t53 H =>
  pFa 9 t53 H fun t54 H =>
  ldK .none H t54 fun t55 H =>
  pO (aLen .sl H t55) H fun t56 H =>
  pLss t56 (.int .i64 (.ofNat 65536)) H fun t57 H =>
  onBool t57 (pO (aNil t0) H fun t59 H =>
  pFa 0 t59 H fun t60 H =>
  ldK .none H t60 fun t61 H =>
  pO (aNil t0) H fun t63 H =>
  pFa 0 t63 H fun t64 H =>
  ldK .none H t64 fun t65 H =>
  pO (aNil t65) H fun t66 H =>
  pFa 9 t66 H fun t67 H =>
  ldK .none H t67 fun t68 H =>
  pO (aNil t0) H fun t70 H =>
  pFa 2 t70 H fun t71 H =>
  ldK .none H t71 fun t72 H =>
  pO (aNil t0) H fun t74 H =>
  pFa 3 t74 H fun t75 H =>
  pFa 1 t75 H fun t76 H =>
  ldK .none H t76 fun t77 H =>
  pC call 104 [t72, t77] H fun t78 H =>
  andR (andB (ckV (aLoad .none H t60) t61) (andB (ckV (aLoad .none H t64) t65) (andB (ckV (aLoad .none H t67) t68) true))) (
  pN (aBsl 1 1 [(.int .i64 (.ofNat 0))] [(0, 1, t78)]) H fun t79 H =>
  pW (aApp 1 8 H t68 t79) fun t80 H =>
  andR (andB (ckV (aLoad .none H t60) t61) true) (
  pO (aNil t61) H fun t81 H =>
  pFa 9 t81 H fun t82 H =>
  stK 1 H t82 t80 fun _ H =>
  S50_0 call t0 H))) (S50_0 call t0 H)) (pEql t2 (.int .i64 (.ofNat 44)) H fun t87 H =>
  onBool t87 (pO (aNil t0) H fun t89 H =>
  pFa 0 t89 H fun t90 H =>
  ldK .none H t90 fun t91 H =>
  pO (aNil t0) H fun t93 H =>
  pFa 3 t93 H fun t94 H =>
  pFa 1 t94 H fun t95 H =>
  ldK .none H t95 fun t96 H =>
  pC call 106 [t91, t96] H fun _ H =>
  some (.tup [], H)) (pC call 107 [t0] H fun _ H =>
  some (.tup [], H)))))
noncomputable def S50_2 (call : CallFn) (t0 t2 t31 t33 : AV) (H : AHeap) : R :=
  pPick t31 (.bool true) t33 H fun t34 H =>
  guardA t34 false (pEql t2 (.int .i64 (.ofNat 37)) H fun t37 H =>
  S50_1 call t0 t2 t34 t37 H) (S50_1 call t0 t2 t34 U H)
noncomputable def S50_3 (call : CallFn) (t0 t2 t27 t29 : AV) (H : AHeap) : R :=
  pPick t27 (.bool true) t29 H fun t30 H =>
  guardA t30 false (pEql t2 (.int .i64 (.ofNat 36)) H fun t33 H =>
  S50_2 call t0 t2 t30 t33 H) (S50_2 call t0 t2 t30 U H)
noncomputable def S50_4 (call : CallFn) (t0 t2 t13 t15 : AV) (H : AHeap) : R :=
  pPick t13 (.bool true) t15 H fun t16 H =>
  onBool t16 (pC call 100 [t0] H fun _ H =>
  some (.tup [], H)) (pLeq t2 (.int .i64 (.ofNat 24)) H fun t21 H =>
  onBool t21 (pC call 101 [t0] H fun _ H =>
  some (.tup [], H)) (pEql t2 (.int .i64 (.ofNat 25)) H fun t26 H =>
  guardA t26 false (pEql t2 (.int .i64 (.ofNat 26)) H fun t29 H =>
  S50_3 call t0 t2 t26 t29 H) (S50_3 call t0 t2 t26 U H)))
noncomputable def S50_5 (call : CallFn) (t0 : AV) (H : AHeap) : R :=
  pO (aNil t0) H fun t4 H =>
  pFa 3 t4 H fun t5 H =>
  pFa 0 t5 H fun t6 H =>
  ldK .none H t6 fun t7 H =>
  pLeq t7 (.int .i64 (.ofNat 19)) H fun t12 H =>
  guardA t12 false (pEql t7 (.int .i64 (.ofNat 43)) H fun t15 H =>
  S50_4 call t0 t7 t12 t15 H) (S50_4 call t0 t7 t12 U H)
noncomputable def S50 : Ff := ⟨fun call l H => argA1 (fun t0 => S50_5 call t0 H) l⟩
/- slices.Clone[[]gantline/vm.Act,gantline/vm.Act] -/
noncomputable def S51_0 (_ : CallFn) (t0 : AV) (H : AHeap) : R :=
  pO (aEq false .sl t0 .nilsl) H fun t4 H =>
  onBool t4 (some (.nilsl, H)) (pN (aBsl 7 0 [(.int .i64 (.ofNat 0)), (.int .i64 (.ofNat 0)), (.int .i64 (.ofNat 0)), (.int .i64 (.ofNat 0)), (.int .i64 (.ofNat 0)), (.int .i64 (.ofNat 0)), (.int .i64 (.ofNat 0))] []) H fun t5 H =>
  pW (aApp 7 56 H t5 t0) fun t7 H =>
  some (t7, H))
noncomputable def S51 : Ff := ⟨fun call l H => argA1 (fun t0 => S51_0 call t0 H) l⟩
/- (*gantline/sched.Table).Enabled -/
noncomputable def S52_0 (call : CallFn) (t0 t1 : AV) (H : AHeap) : R :=
  pBox t0 H fun t2 H =>
  pBox t1 H fun t3 H =>
  ldK .none H t2 fun t5 H =>
  pC call 85 [t5] H fun t6 H =>
  pC call 108 [t6, (.fn 109 [] [t2, t3])] H fun t8 H =>
  some (t8, H)
noncomputable def S52 : Ff := ⟨fun call l H => argA2 (fun t0 t1 => S52_0 call t0 t1 H) l⟩
/- (*gantline/cycle.Cycle).Step -/
noncomputable def S53_0 (call : CallFn) (t0 t1 : AV) (H : AHeap) : R :=
  pO (aNil t0) H fun t10 H =>
  pFa 4 t10 H fun t11 H =>
  ldK .none H t11 fun t12 H =>
  pEql t12 (.int .i64 (.ofNat 1)) H fun t14 H =>
  onBool t14 (pC call 110 [t0, t1] H fun t18 H =>
  pExt t18 0 H fun t19 H =>
  pExt t18 1 H fun t20 H =>
  onBool t20 (pC call 111 [t0, t1, t19] H fun _ H =>
  some ((.bool true), H)) (pO (aNil t0) H fun t27 H =>
  pFa 4 t27 H fun t28 H =>
  stK 1 H t28 (.int .i64 (.ofNat 2)) fun _ H =>
  some ((.bool true), H))) (pEql t12 (.int .i64 (.ofNat 2)) H fun t30 H =>
  onBool t30 (pO (aNil t0) H fun t32 H =>
  pFa 3 t32 H fun t33 H =>
  ldK .none H t33 fun t34 H =>
  pC call 112 [t34] H fun t35 H =>
  onBool t35 (some ((.bool true), H)) (pC call 110 [t0, t1] H fun t39 H =>
  pExt t39 0 H fun _ H =>
  pExt t39 1 H fun t41 H =>
  onBool t41 (pO (aNil t0) H fun t44 H =>
  pFa 4 t44 H fun t45 H =>
  stK 1 H t45 (.int .i64 (.ofNat 1)) fun _ H =>
  some ((.bool true), H)) (pO (aNil t0) H fun t47 H =>
  pFa 4 t47 H fun t48 H =>
  stK 1 H t48 (.int .i64 (.ofNat 3)) fun _ H =>
  pO (aNil t0) H fun t50 H =>
  pFa 2 t50 H fun t51 H =>
  ldK .none H t51 fun t52 H =>
  pC call 113 [t52] H fun _ H =>
  some ((.bool true), H)))) (pEql t12 (.int .i64 (.ofNat 3)) H fun t55 H =>
  onBool t55 (pO (aNil t0) H fun t57 H =>
  pFa 2 t57 H fun t58 H =>
  ldK .none H t58 fun t59 H =>
  pC call 114 [t59] H fun t60 H =>
  pO (aUn .not t60) H fun t61 H =>
  onBool t61 (pO (aNil t0) H fun t63 H =>
  pFa 4 t63 H fun t64 H =>
  stK 1 H t64 (.int .i64 (.ofNat 0)) fun _ H =>
  pO (aNil t0) H fun t66 H =>
  pFa 6 t66 H fun t67 H =>
  ldK .none H t67 fun t68 H =>
  pAdd t68 (.int .i64 (.ofNat 1)) H fun t69 H =>
  pO (aNil t0) H fun t70 H =>
  pFa 6 t70 H fun t71 H =>
  stK 1 H t71 t69 fun _ H =>
  pO (aNil t0) H fun t74 H =>
  pFa 2 t74 H fun t75 H =>
  ldK .none H t75 fun t76 H =>
  pC call 115 [t76] H fun t77 H =>
  pO (aMinMax true t77 (.int .i64 (.ofNat 64))) H fun t78 H =>
  pO (aNil t0) H fun t79 H =>
  pFa 7 t79 H fun t80 H =>
  stK 1 H t80 t78 fun _ H =>
  some ((.bool true), H)) (some ((.bool true), H))) (some ((.bool false), H))))
noncomputable def S53 : Ff := ⟨fun call l H => argA2 (fun t0 t1 => S53_0 call t0 t1 H) l⟩
/- (*gantline/cycle.Cycle).Start -/
noncomputable def S54_0 (call : CallFn) (t0 t1 : AV) (H : AHeap) : R :=
  pO (aNil t0) H fun t6 H =>
  pFa 4 t6 H fun t7 H =>
  ldK .none H t7 fun t8 H =>
  pNeq t8 (.int .i64 (.ofNat 0)) H fun t9 H =>
  onBool t9 (some ((.bool false), H)) (pO (aNil t0) H fun t11 H =>
  pFa 0 t11 H fun t12 H =>
  ldK .none H t12 fun t13 H =>
  pC call 116 [t13] H fun _ H =>
  pO (aNil t0) H fun t16 H =>
  pFa 4 t16 H fun t17 H =>
  stK 1 H t17 (.int .i64 (.ofNat 1)) fun _ H =>
  pO (aNil t0) H fun t19 H =>
  pFa 5 t19 H fun t20 H =>
  ldK .none H t20 fun t21 H =>
  pW (unitW (aClearM H t21)) fun _ H =>
  pI Tryz.prog call t1 "Globals" [] H fun t24 H =>
  pC call 117 [t0, t24] H fun _ H =>
  some ((.bool true), H))
noncomputable def S54 : Ff := ⟨fun call l H => argA2 (fun t0 t1 => S54_0 call t0 t1 H) l⟩
/- slices.ContainsFunc[[]int64,int64] -/
noncomputable def S56_0 (call : CallFn) (t0 t1 : AV) (H : AHeap) : R :=
  pC call 118 [t0, t1] H fun t7 H =>
  pGeq t7 (.int .i64 (.ofNat 0)) H fun t8 H =>
  some (t8, H)
noncomputable def S56 : Ff := ⟨fun call l H => argA2 (fun t0 t1 => S56_0 call t0 t1 H) l⟩
/- (*gantline/vm.Machine).roots -/
noncomputable def S57_0 (call : CallFn) (n : Nat) : AV → AV → AV → AV → AV → AHeap → R :=
  Nat.rec (motive := fun _ => AV → AV → AV → AV → AV → AHeap → R) (fun _ _ _ _ _ _ => none) (fun _ q0 t0 t3 t9 t10 t11 H => pLss t11 t10 H fun t12 H =>
  onBool t12 (pIa 1 t9 t11 H fun t13 H =>
  ldK .none H t13 fun t14 H =>
  pC call 120 [t0, t14] H fun t18 H =>
  pW (aApp 1 8 H t3 t18) fun t19 H =>
  pAdd t11 (.int .i64 (.ofNat 1)) H fun t20 H =>
  q0 t0 t19 t9 t10 t20 H) (some (t3, H))) n
noncomputable def S57_1 (call : CallFn) (t0 : AV) (H : AHeap) : R :=
  pC call 119 [t0] H fun t7 H =>
  pC call 37 [t0] H fun t9 H =>
  pO (aLen .sl H t9) H fun t10 H =>
  S57_0 call 1000000 t0 t7 t9 t10 (.int .i64 (.ofNat 0)) H
noncomputable def S57 : Ff := ⟨fun call l H => argA1 (fun t0 => S57_1 call t0 H) l⟩
/- (*gantline/cycle.Cycle).Marker -/
noncomputable def S58_0 (_ : CallFn) (t0 : AV) (H : AHeap) : R :=
  pO (aNil t0) H fun t4 H =>
  pFa 3 t4 H fun t5 H =>
  ldK .none H t5 fun t6 H =>
  some (t6, H)
noncomputable def S58 : Ff := ⟨fun call l H => argA1 (fun t0 => S58_0 call t0 H) l⟩
/- (*gantline/mark.Marker).Reach -/
noncomputable def S60_0 (call : CallFn) (t5 : AV) (H : AHeap) : R :=
  pC call 128 [t5] H fun t39 H =>
  pC call 127 [t39] H fun t40 H =>
  some (t40, H)
noncomputable def S60_2 (call : CallFn) (q0 : AV → AV → AV → AHeap → R) (t0 t5 t6 t7 t23 t29 : AV) (H : AHeap) : R :=
  pPick t23 t29 (.bool false) H fun t30 H =>
  onBool t30 (pW (unitW (aMapUp .int H t5 t7 (.bool true))) fun _ H =>
  pC call 59 [t0, t7] H fun t36 H =>
  pW (aApp 1 8 H t6 t36) fun t37 H =>
  q0 t0 t5 t37 H) (q0 t0 t5 t6 H)
noncomputable def S60_1 (call : CallFn) (n : Nat) : AV → AV → AV → AHeap → R :=
  Nat.rec (motive := fun _ => AV → AV → AV → AHeap → R) (fun _ _ _ _ => none) (fun _ q0 t0 t5 t6 H => pO (aLen .sl H t6) H fun t12 H =>
  pGtr t12 (.int .i64 (.ofNat 0)) H fun t13 H =>
  onBool t13 (pIa 1 t6 (.int .i64 (.ofNat 0)) H fun t15 H =>
  ldK .none H t15 fun t16 H =>
  pO (aSlice 1 H t6 (.some (.int .i64 (.ofNat 1))) .none .none) H fun t18 H =>
  pO (aLook .int (.bool false) false H t5 t16) H fun t21 H =>
  pO (aUn .not t21) H fun t22 H =>
  guardA t22 true (pO (aNil t0) H fun t25 H =>
  pFa 0 t25 H fun t26 H =>
  ldK .none H t26 fun t27 H =>
  pC call 25 [t27, t16] H fun t29 H =>
  S60_2 call q0 t0 t5 t18 t16 t22 t29 H) (S60_2 call q0 t0 t5 t18 t16 t22 U H)) (S60_0 call t5 H)) n
noncomputable def S60_3 (call : CallFn) (t0 t1 : AV) (H : AHeap) : R :=
  pMap H fun t8 H =>
  pC call 62 [t1] H fun t10 H =>
  S60_1 call 1000000 t0 t8 t10 H
noncomputable def S60 : Ff := ⟨fun call l H => argA2 (fun t0 t1 => S60_3 call t0 t1 H) l⟩
/- (*gantline/arena.Arena).find -/
noncomputable def S61_0 (_ : CallFn) (t0 t6 t8 t19 t32 : AV) (H : AHeap) : R :=
  pPick t19 (.bool true) t32 H fun t33 H =>
  onBool t33 (some (.tup [.nilp, (.int .u64 (.ofNat 0))], H)) (pO (aNil t0) H fun t35 H =>
  pFa 1 t35 H fun t36 H =>
  ldK .none H t36 fun t37 H =>
  pIa 3 t37 t6 H fun t39 H =>
  pConv .u64 t8 H fun t41 H =>
  pO (aBin .shl (.int .u64 (.ofNat 1)) t41) H fun t42 H =>
  some (.tup [t39, t42], H))
noncomputable def S61_1 (call : CallFn) (t0 t1 : AV) (H : AHeap) : R :=
  pC call 124 [t1] H fun t10 H =>
  pC call 33 [t0, t10] H fun t13 H =>
  pC call 129 [t1, t13] H fun t16 H =>
  pLss t16 (.int .i64 (.ofNat 0)) H fun t18 H =>
  guardA t18 false (pO (aNil t0) H fun t21 H =>
  pFa 1 t21 H fun t22 H =>
  ldK .none H t22 fun t23 H =>
  pIa 3 t23 t10 H fun t25 H =>
  pFa 1 t25 H fun t26 H =>
  ldK .none H t26 fun t27 H =>
  pConv .u64 t16 H fun t29 H =>
  pO (aBin .shr t27 t29) H fun t30 H =>
  pAnd t30 (.int .u64 (.ofNat 1)) H fun t31 H =>
  pEql t31 (.int .u64 (.ofNat 0)) H fun t32 H =>
  S61_0 call t0 t10 t16 t18 t32 H) (S61_0 call t0 t10 t16 t18 U H)
noncomputable def S61 : Ff := ⟨fun call l H => argA2 (fun t0 t1 => S61_1 call t0 t1 H) l⟩
/- slices.Clone[[]int64,int64] -/
noncomputable def S62_0 (_ : CallFn) (t0 : AV) (H : AHeap) : R :=
  pO (aEq false .sl t0 .nilsl) H fun t4 H =>
  onBool t4 (some (.nilsl, H)) (pN (aBsl 1 0 [(.int .i64 (.ofNat 0))] []) H fun t5 H =>
  pW (aApp 1 8 H t5 t0) fun t7 H =>
  some (t7, H))
noncomputable def S62 : Ff := ⟨fun call l H => argA1 (fun t0 => S62_0 call t0 H) l⟩
/- gantline/live.Sets -/
noncomputable def S63_0 (_ : CallFn) (t5 : AV) (H : AHeap) : R :=
  ldK .none H t5 fun t52 H =>
  some (t52, H)
noncomputable def S63_3 (_ : CallFn) (q1 : AV → AV → AV → AV → AV → AV → AHeap → R) (t2 t3 t5 t6 t7 t8 : AV) (H : AHeap) : R :=
  pSub t8 (.int .i64 (.ofNat 1)) H fun t24 H =>
  q1 t2 t3 t5 t6 t7 t24 H
noncomputable def S63_2 (call : CallFn) (q0 : AV → AV → AV → AV → AV → AHeap → R) (n : Nat) : AV → AV → AV → AV → AV → AV → AHeap → R :=
  Nat.rec (motive := fun _ => AV → AV → AV → AV → AV → AV → AHeap → R) (fun _ _ _ _ _ _ _ => none) (fun _ q1 t2 t3 t5 t6 t7 t8 H => pGeq t8 (.int .i64 (.ofNat 0)) H fun t22 H =>
  onBool t22 (pFa 5 t3 H fun t25 H =>
  ldK .none H t25 fun t26 H =>
  pIa 5 t26 t8 H fun t28 H =>
  ldK (.some 5) H t28 fun t29 H =>
  pNew [(.int .i64 (.ofNat 0)), (.int .i64 (.ofNat 0)), (.int .i64 (.ofNat 0)), (.int .i64 (.ofNat 0)), (.int .i64 (.ofNat 0))] H fun t9 H =>
  stK 5 H t9 t29 fun _ H =>
  ldK (.some 6) H t2 fun t30 H =>
  ldK (.some 5) H t9 fun t31 H =>
  ldK (.some 5) H t9 fun t37 H =>
  pC call 134 [t30, t31] H fun t32 H =>
  andR (andB (ckV (aLoad (.some 5) H t9) t37) true) (
  pC call 132 [t32] H fun t33 H =>
  andR (andB (ckV (aLoad (.some 5) H t9) t37) true) (
  pV call t6 [t8] H fun t36 H =>
  andR (andB (ckV (aLoad (.some 5) H t9) t37) true) (
  pC call 135 [t37] H fun t38 H =>
  pC call 132 [t38] H fun t39 H =>
  pAndN t36 t39 H fun t40 H =>
  pOr t33 t40 H fun t41 H =>
  ldK .none H t5 fun t43 H =>
  pIa 1 t43 t8 H fun t45 H =>
  ldK .none H t45 fun t46 H =>
  pNeq t41 t46 H fun t47 H =>
  onBool t47 (ldK .none H t5 fun t48 H =>
  pIa 1 t48 t8 H fun t51 H =>
  stK 1 H t51 t41 fun _ H =>
  S63_3 call q1 t2 t3 t5 t6 (.bool true) t8 H) (S63_3 call q1 t2 t3 t5 t6 t7 t8 H))))) (q0 t2 t3 t5 t6 t7 H)) n
noncomputable def S63_1 (call : CallFn) (n : Nat) : AV → AV → AV → AV → AV → AHeap → R :=
  Nat.rec (motive := fun _ => AV → AV → AV → AV → AV → AHeap → R) (fun _ _ _ _ _ _ => none) (fun _ q0 t2 t3 t5 t6 t7 H => onBool t7 (pFa 5 t3 H fun t17 H =>
  ldK .none H t17 fun t18 H =>
  pO (aLen .sl H t18) H fun t19 H =>
  pSub t19 (.int .i64 (.ofNat 1)) H fun t20 H =>
  S63_2 call q0 1000000 t2 t3 t5 t6 (.bool false) t20 H) (S63_0 call t5 H)) n
noncomputable def S63_4 (call : CallFn) (t0 t1 : AV) (H : AHeap) : R :=
  pBox t0 H fun t2 H =>
  pBox t1 H fun t3 H =>
  pFa 5 t3 H fun t11 H =>
  ldK .none H t11 fun t12 H =>
  pO (aLen .sl H t12) H fun t13 H =>
  pN (aMksl 1 8 [(.int .u64 (.ofNat 0))] t13 t13) H fun t14 H =>
  pNew [.nilsl] H fun t5 H =>
  stK 1 H t5 t14 fun _ H =>
  S63_1 call 1000000 t2 t3 t5 (.fn 130 [] [t3, t2, t5]) (.bool true) H
noncomputable def S63 : Ff := ⟨fun call l H => argA2 (fun t0 t1 => S63_4 call t0 t1 H) l⟩
/- (*gantline/arena.Arena).has -/
noncomputable def S64_0 (_ : CallFn) (t7 t14 : AV) (H : AHeap) : R :=
  pPick t7 t14 (.bool false) H fun t15 H =>
  some (t15, H)
noncomputable def S64_1 (call : CallFn) (t0 t1 : AV) (H : AHeap) : R :=
  pGeq t1 (.int .i64 (.ofNat 1)) H fun t6 H =>
  guardA t6 true (pO (aNil t0) H fun t10 H =>
  pFa 1 t10 H fun t11 H =>
  ldK .none H t11 fun t12 H =>
  pO (aLen .sl H t12) H fun t13 H =>
  pLss t1 t13 H fun t14 H =>
  S64_0 call t6 t14 H) (S64_0 call t6 U H)
noncomputable def S64 : Ff := ⟨fun call l H => argA2 (fun t0 t1 => S64_1 call t0 t1 H) l⟩
/- (*gantline/sched.Table).IDs -/
noncomputable def S85_0 (call : CallFn) (t0 : AV) (H : AHeap) : R :=
  pO (aNil t0) H fun t4 H =>
  pFa 6 t4 H fun t5 H =>
  ldK .none H t5 fun t6 H =>
  pC call 142 [t6] H fun t7 H =>
  pC call 141 [t7] H fun t8 H =>
  some (t8, H)
noncomputable def S85 : Ff := ⟨fun call l H => argA1 (fun t0 => S85_0 call t0 H) l⟩
/- gantline/verify.Check -/
noncomputable def S86_0 (call : CallFn) (t0 : AV) (H : AHeap) : R :=
  pBox t0 H fun t1 H =>
  pNew [(.int .i64 (.ofNat 0)), (.int .i64 (.ofNat 0)), (.int .i64 (.ofNat 0))] H fun t2 H =>
  ldK (.some 6) H t1 fun t4 H =>
  pC call 143 [t4, .nilsl] H fun t5 H =>
  pExt t5 0 H fun t6 H =>
  pExt t5 1 H fun t7 H =>
  stK 3 H t2 t6 fun _ H =>
  ob (allM (fun o => o) [aLoad (.some 3) H t2, some t7]) fun vs => some (resV vs, H)
noncomputable def S86 : Ff := ⟨fun call l H => argA1 (fun t0 => S86_0 call t0 H) l⟩
/- gantline/cycle.New -/
noncomputable def S87_0 (call : CallFn) (t0 : AV) (H : AHeap) : R :=
  pC call 144 [t0] H fun t9 H =>
  pExt t9 0 H fun t10 H =>
  pExt t9 1 H fun t11 H =>
  pNeq t11 (.int .i64 (.ofNat 0)) H fun t13 H =>
  onBool t13 (some (.tup [.nilp, t11], H)) (pC call 145 [] H fun t15 H =>
  pC call 146 [t10] H fun t19 H =>
  pC call 147 [t10, t15] H fun t22 H =>
  pMap H fun t23 H =>
  pO (someAgg (aFill [.nilp, .nilp, .nilp, .nilp, (.int .i64 (.ofNat 0)), .nilmap, (.int .i64 (.ofNat 0)), (.int .i64 (.ofNat 0))] [(0, 1, t10), (1, 1, t15), (2, 1, t19), (3, 1, t22), (5, 1, t23), (7, 1, (.int .i64 (.ofNat 64)))])) H fun t24 H =>
  pBox t24 H fun t25 H =>
  some (.tup [t25, (.int .i64 (.ofNat 0))], H))
noncomputable def S87 : Ff := ⟨fun call l H => argA1 (fun t0 => S87_0 call t0 H) l⟩
/- (*gantline/cycle.Cycle).Table -/
noncomputable def S88_0 (_ : CallFn) (t0 : AV) (H : AHeap) : R :=
  pO (aNil t0) H fun t4 H =>
  pFa 1 t4 H fun t5 H =>
  ldK .none H t5 fun t6 H =>
  some (t6, H)
noncomputable def S88 : Ff := ⟨fun call l H => argA1 (fun t0 => S88_0 call t0 H) l⟩
/- (*gantline/head.Table).Number -/
noncomputable def S89_0 (call : CallFn) (t0 t1 : AV) (H : AHeap) : R :=
  pBox t1 H fun t3 H =>
  ldK (.some 3) H t3 fun t8 H =>
  pC call 148 [t8] H fun t9 H =>
  pO (aUn .not t9) H fun t10 H =>
  onBool t10 (some (.tup [(.int .i64 (.ofNat 0)), (.int .i64 (.ofNat 1))], H)) (pO (aNil t0) H fun t13 H =>
  pFa 1 t13 H fun t14 H =>
  ldK .none H t14 fun t15 H =>
  ldK (.some 3) H t3 fun t16 H =>
  pO (aLook (.struct [(0, .none, .int), (1, .none, .int), (2, .none, .int)]) (.int .i64 (.ofNat 0)) true H t15 t16) H fun t17 H =>
  pExt t17 0 H fun t18 H =>
  pExt t17 1 H fun t19 H =>
  onBool t19 (some (.tup [t18, (.int .i64 (.ofNat 0))], H)) (pO (aNil t0) H fun t23 H =>
  pFa 0 t23 H fun t24 H =>
  ldK .none H t24 fun t25 H =>
  pO (aLen .sl H t25) H fun t26 H =>
  pEql t26 (.int .i64 (.ofNat 65536)) H fun t27 H =>
  onBool t27 (some (.tup [(.int .i64 (.ofNat 0)), (.int .i64 (.ofNat 2))], H)) (pO (aNil t0) H fun t29 H =>
  pFa 1 t29 H fun t30 H =>
  ldK .none H t30 fun t31 H =>
  ldK (.some 3) H t3 fun t32 H =>
  pO (aNil t0) H fun t34 H =>
  pFa 0 t34 H fun t35 H =>
  ldK .none H t35 fun t36 H =>
  pO (aLen .sl H t36) H fun t37 H =>
  pW (unitW (aMapUp (.struct [(0, .none, .int), (1, .none, .int), (2, .none, .int)]) H t31 t32 t37)) fun _ H =>
  pO (aNil t0) H fun t40 H =>
  pFa 0 t40 H fun t41 H =>
  ldK .none H t41 fun t42 H =>
  ldK (.some 3) H t3 fun t43 H =>
  pN (aBsl 3 1 [(.int .i64 (.ofNat 0)), (.int .i64 (.ofNat 0)), (.int .u64 (.ofNat 0))] [(0, 3, t43)]) H fun t44 H =>
  pW (aApp 3 24 H t42 t44) fun t45 H =>
  pO (aNil t0) H fun t46 H =>
  pFa 0 t46 H fun t47 H =>
  stK 1 H t47 t45 fun _ H =>
  pO (aNil t0) H fun t49 H =>
  pFa 0 t49 H fun t50 H =>
  ldK .none H t50 fun t51 H =>
  pO (aLen .sl H t51) H fun t52 H =>
  pSub t52 (.int .i64 (.ofNat 1)) H fun t53 H =>
  some (.tup [t53, (.int .i64 (.ofNat 0))], H))))
noncomputable def S89 : Ff := ⟨fun call l H => argA2 (fun t0 t1 => S89_0 call t0 t1 H) l⟩
/- slices.Clone[[]gantline/head.Shape,gantline/head.Shape] -/
noncomputable def S90_0 (_ : CallFn) (t0 : AV) (H : AHeap) : R :=
  pO (aEq false .sl t0 .nilsl) H fun t4 H =>
  onBool t4 (some (.nilsl, H)) (pN (aBsl 3 0 [(.int .i64 (.ofNat 0)), (.int .i64 (.ofNat 0)), (.int .u64 (.ofNat 0))] []) H fun t5 H =>
  pW (aApp 3 24 H t5 t0) fun t7 H =>
  some (t7, H))
noncomputable def S90 : Ff := ⟨fun call l H => argA1 (fun t0 => S90_0 call t0 H) l⟩
/- slices.Clone[[]bool,bool] -/
noncomputable def S91_0 (_ : CallFn) (t0 : AV) (H : AHeap) : R :=
  pO (aEq false .sl t0 .nilsl) H fun t4 H =>
  onBool t4 (some (.nilsl, H)) (pN (aBsl 1 0 [(.bool false)] []) H fun t5 H =>
  pW (aApp 1 1 H t5 t0) fun t7 H =>
  some (t7, H))
noncomputable def S91 : Ff := ⟨fun call l H => argA1 (fun t0 => S91_0 call t0 H) l⟩
/- slices.Clone[[]gantline/code.Case,gantline/code.Case] -/
noncomputable def S92_0 (_ : CallFn) (t0 : AV) (H : AHeap) : R :=
  pO (aEq false .sl t0 .nilsl) H fun t4 H =>
  onBool t4 (some (.nilsl, H)) (pN (aBsl 4 0 [(.int .i64 (.ofNat 0)), (.int .i64 (.ofNat 0)), (.int .i64 (.ofNat 0)), (.int .i64 (.ofNat 0))] []) H fun t5 H =>
  pW (aApp 4 32 H t5 t0) fun t7 H =>
  some (t7, H))
noncomputable def S92 : Ff := ⟨fun call l H => argA1 (fun t0 => S92_0 call t0 H) l⟩
/- slices.Clone[[]gantline/code.Func,gantline/code.Func] -/
noncomputable def S93_0 (_ : CallFn) (t0 : AV) (H : AHeap) : R :=
  pO (aEq false .sl t0 .nilsl) H fun t4 H =>
  onBool t4 (some (.nilsl, H)) (pN (aBsl 7 0 [(.int .i64 (.ofNat 0)), (.int .i64 (.ofNat 0)), (.int .i64 (.ofNat 0)), (.int .i64 (.ofNat 0)), .nilsl, .nilsl, .nilsl] []) H fun t5 H =>
  pW (aApp 7 104 H t5 t0) fun t7 H =>
  some (t7, H))
noncomputable def S93 : Ff := ⟨fun call l H => argA1 (fun t0 => S93_0 call t0 H) l⟩
/- slices.Clone[[]gantline/code.Instr,gantline/code.Instr] -/
noncomputable def S94_0 (_ : CallFn) (t0 : AV) (H : AHeap) : R :=
  pO (aEq false .sl t0 .nilsl) H fun t4 H =>
  onBool t4 (some (.nilsl, H)) (pN (aBsl 5 0 [(.int .i64 (.ofNat 0)), (.int .i64 (.ofNat 0)), (.int .i64 (.ofNat 0)), (.int .i64 (.ofNat 0)), (.int .i64 (.ofNat 0))] []) H fun t5 H =>
  pW (aApp 5 40 H t5 t0) fun t7 H =>
  some (t7, H))
noncomputable def S94 : Ff := ⟨fun call l H => argA1 (fun t0 => S94_0 call t0 H) l⟩
/- slices.Clone[[]uint64,uint64] -/
noncomputable def S95_0 (_ : CallFn) (t0 : AV) (H : AHeap) : R :=
  pO (aEq false .sl t0 .nilsl) H fun t4 H =>
  onBool t4 (some (.nilsl, H)) (pN (aBsl 1 0 [(.int .u64 (.ofNat 0))] []) H fun t5 H =>
  pW (aApp 1 8 H t5 t0) fun t7 H =>
  some (t7, H))
noncomputable def S95 : Ff := ⟨fun call l H => argA1 (fun t0 => S95_0 call t0 H) l⟩
/- gantline/frame.New -/
noncomputable def S96_0 (call : CallFn) (t0 t1 t2 : AV) (H : AHeap) : R :=
  pBox t0 H fun t3 H =>
  ldK (.some 6) H t3 fun t11 H =>
  pC call 149 [t11, t1, t2] H fun t14 H =>
  pExt t14 0 H fun t15 H =>
  pExt t14 1 H fun t16 H =>
  pNew [(.int .i64 (.ofNat 0)), (.int .i64 (.ofNat 0)), .nilsl] H fun t8 H =>
  stK 3 H t8 t15 fun _ H =>
  pNeq t16 (.int .i64 (.ofNat 0)) H fun t18 H =>
  onBool t18 (some (.tup [.nilp, t16], H)) (ldK (.some 3) H t8 fun t20 H =>
  pN (aBsl 3 1 [(.int .i64 (.ofNat 0)), (.int .i64 (.ofNat 0)), .nilsl] [(0, 3, t20)]) H fun t21 H =>
  pO (someAgg (aFill [.nilsl] [(0, 1, t21)])) H fun t22 H =>
  pBox t22 H fun t23 H =>
  some (.tup [t23, (.int .i64 (.ofNat 0))], H))
noncomputable def S96 : Ff := ⟨fun call l H => argA3 (fun t0 t1 t2 => S96_0 call t0 t1 t2 H) l⟩
/- (*gantline/sched.Table).Ways -/
noncomputable def S97_0 (_ : CallFn) (t11 t12 t74 t76 : AV) (H : AHeap) : R :=
  pPick t74 t76 (.bool false) H fun t77 H =>
  onBool t77 (pO (someAgg (aFill [(.int .i64 (.ofNat 0)), (.int .i64 (.ofNat 0)), (.int .i64 (.ofNat 0))] [(0, 1, t11), (1, 1, (.int .i64 (.ofNat 0))), (2, 1, (.int .i64 (.negSucc 0)))])) H fun t79 H =>
  pN (aBsl 3 1 [(.int .i64 (.ofNat 0)), (.int .i64 (.ofNat 0)), (.int .i64 (.ofNat 0))] [(0, 3, t79)]) H fun t80 H =>
  some (t80, H)) (some (t12, H))
noncomputable def S97_1 (call : CallFn) (t11 t12 : AV) (H : AHeap) : R :=
  pO (aLen .sl H t12) H fun t72 H =>
  pEql t72 (.int .i64 (.ofNat 0)) H fun t73 H =>
  guardA t73 true (pNeq t11 (.int .i64 (.negSucc 0)) H fun t76 H =>
  S97_0 call t11 t12 t73 t76 H) (S97_0 call t11 t12 t73 U H)
noncomputable def S97_2 (call : CallFn) (n : Nat) : AV → AV → AV → AV → AV → AV → AV → AV → AHeap → R :=
  Nat.rec (motive := fun _ => AV → AV → AV → AV → AV → AV → AV → AV → AHeap → R) (fun _ _ _ _ _ _ _ _ _ => none) (fun _ q0 t0 t1 t2 t11 t12 t57 t58 t59 H => pLss t59 t58 H fun t60 H =>
  onBool t60 (pIa 4 t57 t59 H fun t61 H =>
  ldK (.some 4) H t61 fun t62 H =>
  pNew [(.int .i64 (.ofNat 0)), (.bool false), (.int .i64 (.ofNat 0)), (.bool false)] H fun t14 H =>
  stK 4 H t14 t62 fun _ H =>
  ldK (.some 4) H t14 fun t67 H =>
  pC call 151 [t0, t1, t2, t67] H fun t68 H =>
  pW (aApp 3 24 H t12 t68) fun t69 H =>
  pAdd t59 (.int .i64 (.ofNat 1)) H fun t70 H =>
  q0 t0 t1 t2 t11 t69 t57 t58 t70 H) (S97_1 call t11 t12 H)) n
noncomputable def S97_3 (call : CallFn) (t0 t1 t2 t7 t8 t42 t45 : AV) (H : AHeap) : R :=
  pPick t42 t45 (.bool false) H fun t46 H =>
  onBool t46 (pO (someAgg (aFill [(.int .i64 (.ofNat 0)), (.int .i64 (.ofNat 0)), (.int .i64 (.ofNat 0))] [(0, 1, (.int .i64 (.negSucc 0))), (1, 1, (.int .i64 (.ofNat 0))), (2, 1, (.int .i64 (.negSucc 0)))])) H fun t47 H =>
  pN (aBsl 3 1 [(.int .i64 (.ofNat 0)), (.int .i64 (.ofNat 0)), (.int .i64 (.ofNat 0))] [(0, 3, t47)]) H fun t48 H =>
  some (t48, H)) (ldK (.some 5) H t8 fun t53 H =>
  pC call 150 [t0, t1, t7, t53] H fun t54 H =>
  pExt t54 0 H fun t55 H =>
  pExt t54 1 H fun t56 H =>
  pO (aLen .sl H t55) H fun t58 H =>
  S97_2 call 1000000 t0 t1 t2 t56 .nilsl t55 t58 (.int .i64 (.ofNat 0)) H)
noncomputable def S97_4 (call : CallFn) (t0 t1 t2 t7 t8 t37 t40 : AV) (H : AHeap) : R :=
  pPick t37 t40 (.bool false) H fun t41 H =>
  guardA t41 true (pFa 0 t8 H fun t43 H =>
  ldK .none H t43 fun t44 H =>
  pNeq t44 (.int .i64 (.ofNat 41)) H fun t45 H =>
  S97_3 call t0 t1 t2 t7 t8 t41 t45 H) (S97_3 call t0 t1 t2 t7 t8 t41 U H)
noncomputable def S97_5 (call : CallFn) (t0 t1 t2 : AV) (H : AHeap) : R :=
  pO (aNil t0) H fun t16 H =>
  pFa 6 t16 H fun t17 H =>
  ldK .none H t17 fun t18 H =>
  pO (aLook .int .nilp false H t18 t2) H fun t20 H =>
  pO (aEq false .ptr t20 .nilp) H fun t22 H =>
  onBool t22 (some (.nilsl, H)) (pO (aNil t0) H fun t26 H =>
  pFa 0 t26 H fun t27 H =>
  ldK (.some 6) H t27 fun t28 H =>
  pC call 46 [t20, t28] H fun t29 H =>
  pExt t29 0 H fun t30 H =>
  pExt t29 1 H fun t31 H =>
  pNew [(.int .i64 (.ofNat 0)), (.int .i64 (.ofNat 0)), (.int .i64 (.ofNat 0)), (.int .i64 (.ofNat 0)), (.int .i64 (.ofNat 0))] H fun t8 H =>
  stK 5 H t8 t30 fun _ H =>
  pO (aUn .not t31) H fun t33 H =>
  onBool t33 (some (.nilsl, H)) (pFa 0 t8 H fun t34 H =>
  ldK .none H t34 fun t35 H =>
  pNeq t35 (.int .i64 (.ofNat 38)) H fun t36 H =>
  guardA t36 true (pFa 0 t8 H fun t38 H =>
  ldK .none H t38 fun t39 H =>
  pNeq t39 (.int .i64 (.ofNat 39)) H fun t40 H =>
  S97_4 call t0 t1 t2 t20 t8 t36 t40 H) (S97_4 call t0 t1 t2 t20 t8 t36 U H)))
noncomputable def S97 : Ff := ⟨fun call l H => argA3 (fun t0 t1 t2 => S97_5 call t0 t1 t2 H) l⟩
/- (*gantline/frame.Stack).top -/
noncomputable def S98_0 (_ : CallFn) (t0 : AV) (H : AHeap) : R :=
  pO (aNil t0) H fun t4 H =>
  pFa 0 t4 H fun t5 H =>
  ldK .none H t5 fun t6 H =>
  pO (aLen .sl H t6) H fun t7 H =>
  pEql t7 (.int .i64 (.ofNat 0)) H fun t8 H =>
  onBool t8 (some (.nilp, H)) (pO (aNil t0) H fun t10 H =>
  pFa 0 t10 H fun t11 H =>
  ldK .none H t11 fun t12 H =>
  pO (aNil t0) H fun t14 H =>
  pFa 0 t14 H fun t15 H =>
  ldK .none H t15 fun t16 H =>
  pO (aLen .sl H t16) H fun t17 H =>
  pSub t17 (.int .i64 (.ofNat 1)) H fun t18 H =>
  pIa 3 t12 t18 H fun t19 H =>
  some (t19, H))
noncomputable def S98 : Ff := ⟨fun call l H => argA1 (fun t0 => S98_0 call t0 H) l⟩
/- gantline/frame.clone -/
noncomputable def S99_0 (call : CallFn) (t0 : AV) (H : AHeap) : R :=
  pBox t0 H fun t1 H =>
  pNew [(.int .i64 (.ofNat 0)), (.int .i64 (.ofNat 0)), .nilsl] H fun t2 H =>
  pFa 2 t1 H fun t3 H =>
  ldK .none H t3 fun t4 H =>
  pC call 62 [t4] H fun t5 H =>
  pFa 2 t1 H fun t6 H =>
  stK 1 H t6 t5 fun _ H =>
  ldK (.some 3) H t1 fun t7 H =>
  stK 3 H t2 t7 fun _ H =>
  ob (allM (fun o => o) [aLoad (.some 3) H t2]) fun vs => some (resV vs, H)
noncomputable def S99 : Ff := ⟨fun call l H => argA1 (fun t0 => S99_0 call t0 H) l⟩
end Go.Proofs.YtggjnaeefpafhaaGreatDoor
