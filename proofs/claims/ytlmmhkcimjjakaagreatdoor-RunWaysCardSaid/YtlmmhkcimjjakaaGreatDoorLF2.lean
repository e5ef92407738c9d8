/- Plain functions, printed: part 2. -/
import Derived.Test.YtlmmhkcimjjakaaGreatDoorAdE
import Derived.Test.YtlmmhkcimjjakaaGreatDoorProg
import Derived.KernelRfl
namespace Go.Proofs.YtlmmhkcimjjakaaGreatDoor
open Go.Ab
set_option maxRecDepth 100000
/- (*gantline/vm.doing).channels -/
noncomputable def S134_0 (call : CallFn) (t0 t2 t3 t23 t40 : AV) (H : AHeap) : R :=
  pPick t23 t40 (.bool false) H fun t41 H =>
  onBool t41 (pO (aNil t0) H fun t43 H =>
  pFa 2 t43 H fun t44 H =>
  ldK .none H t44 fun t45 H =>
  pO (aNil t2) H fun t47 H =>
  pFa 0 t47 H fun t48 H =>
  pFa 3 t48 H fun t49 H =>
  ldK .none H t49 fun t50 H =>
  pFa 1 t3 H fun t51 H =>
  ldK .none H t51 fun t52 H =>
  pO (aNil t0) H fun t54 H =>
  pFa 16 t54 H fun t55 H =>
  pFa 0 t55 H fun t56 H =>
  ldK .none H t56 fun t57 H =>
  pAdd t52 t57 H fun t58 H =>
  pIa 4 t50 t58 H fun t59 H =>
  pFa 3 t59 H fun t60 H =>
  ldK .none H t60 fun t61 H =>
  pC call 163 [t45, t61] H fun _ H =>
  some (.tup [], H)) (pO (aNil t0) H fun t65 H =>
  pFa 2 t65 H fun t66 H =>
  ldK .none H t66 fun t67 H =>
  pO (aNil t0) H fun t69 H =>
  pFa 16 t69 H fun t70 H =>
  pFa 0 t70 H fun t71 H =>
  ldK .none H t71 fun t72 H =>
  pNew [.nilp, (.bool false), (.int .i64 (.ofNat 0)), (.int .i64 (.ofNat 0)), (.int .i64 (.ofNat 0)), (.int .i64 (.ofNat 0))] H fun t4 H =>
  pC call 183 [t2, t67, t72] H fun t73 H =>
  stK 6 H t4 t73 fun _ H =>
  ldK (.some 6) H t4 fun t95 H =>
  pC call 184 [t0, t95] H fun t96 H =>
  pO (aUn .not t96) H fun t97 H =>
  onBool t97 (pC call 133 [t2, (.int .i64 (.ofNat 1))] H fun _ H =>
  some (.tup [], H)) (pO (aNil t0) H fun t102 H =>
  pFa 16 t102 H fun t103 H =>
  pFa 1 t103 H fun t104 H =>
  ldK .none H t104 fun t105 H =>
  pNeq t105 (.int .i64 (.ofNat 0)) H fun t106 H =>
  onBool t106 (ldK (.some 6) H t4 fun t108 H =>
  pO (aNil t2) H fun t111 H =>
  pFa 7 t111 H fun t112 H =>
  ldK .none H t112 fun t113 H =>
  pO (aNil t0) H fun t115 H =>
  pFa 16 t115 H fun t116 H =>
  pFa 1 t116 H fun t117 H =>
  ldK .none H t117 fun t118 H =>
  pO (aNil t0) H fun t121 H =>
  pFa 16 t121 H fun t122 H =>
  pFa 2 t122 H fun t123 H =>
  ldK .none H t123 fun t124 H =>
  pC call 87 [t113, t118] H fun t119 H =>
  andR (andB (ckV (aLoad (.some 6) H t4) t108) (andB (ckV (aLoad .none H t123) t124) true)) (
  pC call 183 [t2, t119, t124] H fun t125 H =>
  andR (andB (ckV (aLoad (.some 6) H t4) t108) true) (
  pC call 185 [t0, t108, t125] H fun _ H =>
  some (.tup [], H)))) (pFa 1 t4 H fun t128 H =>
  ldK .none H t128 fun t129 H =>
  onBool t129 (ldK (.some 6) H t4 fun t131 H =>
  pC call 186 [t0, t131] H fun _ H =>
  some (.tup [], H)) (pO (aNil t2) H fun t76 H =>
  pFa 6 t76 H fun t77 H =>
  ldK .none H t77 fun t78 H =>
  pO (aNil t0) H fun t80 H =>
  pFa 2 t80 H fun t81 H =>
  ldK .none H t81 fun t82 H =>
  pFa 2 t4 H fun t83 H =>
  ldK .none H t83 fun t84 H =>
  pC call 131 [t82, t84] H fun t85 H =>
  andR (andB (ckV (aLoad .none H t77) t78) true) (
  pC call 187 [t78, t85] H fun t86 H =>
  pExt t86 0 H fun t87 H =>
  pExt t86 1 H fun t88 H =>
  ldK (.some 6) H t4 fun t89 H =>
  pC call 188 [t89, t87, t88] H fun _ H =>
  some (.tup [], H))))))
noncomputable def S134_1 (call : CallFn) (t0 t2 t3 t23 t39 : AV) (H : AHeap) : R :=
  guardA t23 true (pGtr t39 (.int .i64 (.ofNat 1)) H fun t40 H =>
  S134_0 call t0 t2 t3 t23 t40 H) (S134_0 call t0 t2 t3 t23 U H)
noncomputable def S134_2 (call : CallFn) (t0 t2 t3 t23 t38 : AV) (H : AHeap) : R :=
  guardA t23 true (ldK .none H t38 fun t39 H =>
  S134_1 call t0 t2 t3 t23 t39 H) (S134_1 call t0 t2 t3 t23 U H)
noncomputable def S134_3 (call : CallFn) (t0 t2 t3 t23 t37 : AV) (H : AHeap) : R :=
  guardA t23 true (pFa 0 t37 H fun t38 H =>
  S134_2 call t0 t2 t3 t23 t38 H) (S134_2 call t0 t2 t3 t23 U H)
noncomputable def S134_4 (call : CallFn) (t0 t2 t3 t23 t28 t36 : AV) (H : AHeap) : R :=
  guardA t23 true (pIa 4 t28 t36 H fun t37 H =>
  S134_3 call t0 t2 t3 t23 t37 H) (S134_3 call t0 t2 t3 t23 U H)
noncomputable def S134_5 (call : CallFn) (t0 t2 t3 t23 t28 t30 t35 : AV) (H : AHeap) : R :=
  guardA t23 true (pAdd t30 t35 H fun t36 H =>
  S134_4 call t0 t2 t3 t23 t28 t36 H) (S134_4 call t0 t2 t3 t23 t28 U H)
noncomputable def S134_6 (call : CallFn) (t0 t2 t3 t23 t28 t30 t34 : AV) (H : AHeap) : R :=
  guardA t23 true (ldK .none H t34 fun t35 H =>
  S134_5 call t0 t2 t3 t23 t28 t30 t35 H) (S134_5 call t0 t2 t3 t23 t28 t30 U H)
noncomputable def S134_7 (call : CallFn) (t0 t2 t3 t23 t28 t30 t33 : AV) (H : AHeap) : R :=
  guardA t23 true (pFa 0 t33 H fun t34 H =>
  S134_6 call t0 t2 t3 t23 t28 t30 t34 H) (S134_6 call t0 t2 t3 t23 t28 t30 U H)
noncomputable def S134_8 (call : CallFn) (t0 t2 t3 t23 t28 t30 t32 : AV) (H : AHeap) : R :=
  guardA t23 true (pFa 16 t32 H fun t33 H =>
  S134_7 call t0 t2 t3 t23 t28 t30 t33 H) (S134_7 call t0 t2 t3 t23 t28 t30 U H)
noncomputable def S134_9 (call : CallFn) (t0 t2 t3 t23 t28 t30 t31 : AV) (H : AHeap) : R :=
  guardA t23 true (pO (aNil t31) H fun t32 H =>
  S134_8 call t0 t2 t3 t23 t28 t30 t32 H) (S134_8 call t0 t2 t3 t23 t28 t30 U H)
noncomputable def S134_10 (call : CallFn) (t0 t2 t3 t23 t28 t30 : AV) (H : AHeap) : R :=
  guardA t23 true (S134_9 call t0 t2 t3 t23 t28 t30 t0 H) (S134_9 call t0 t2 t3 t23 t28 t30 U H)
noncomputable def S134_11 (call : CallFn) (t0 t2 t3 t23 t28 t29 : AV) (H : AHeap) : R :=
  guardA t23 true (ldK .none H t29 fun t30 H =>
  S134_10 call t0 t2 t3 t23 t28 t30 H) (S134_10 call t0 t2 t3 t23 t28 U H)
noncomputable def S134_12 (call : CallFn) (t0 t2 t3 t23 t28 : AV) (H : AHeap) : R :=
  guardA t23 true (pFa 1 t3 H fun t29 H =>
  S134_11 call t0 t2 t3 t23 t28 t29 H) (S134_11 call t0 t2 t3 t23 t28 U H)
noncomputable def S134_13 (call : CallFn) (t0 t2 t3 t23 t27 : AV) (H : AHeap) : R :=
  guardA t23 true (ldK .none H t27 fun t28 H =>
  S134_12 call t0 t2 t3 t23 t28 H) (S134_12 call t0 t2 t3 t23 U H)
noncomputable def S134_14 (call : CallFn) (t0 t2 t3 t23 t26 : AV) (H : AHeap) : R :=
  guardA t23 true (pFa 3 t26 H fun t27 H =>
  S134_13 call t0 t2 t3 t23 t27 H) (S134_13 call t0 t2 t3 t23 U H)
noncomputable def S134_15 (call : CallFn) (t0 t2 t3 t23 t25 : AV) (H : AHeap) : R :=
  guardA t23 true (pFa 0 t25 H fun t26 H =>
  S134_14 call t0 t2 t3 t23 t26 H) (S134_14 call t0 t2 t3 t23 U H)
noncomputable def S134_16 (call : CallFn) (t0 t2 t3 t23 t24 : AV) (H : AHeap) : R :=
  guardA t23 true (pO (aNil t24) H fun t25 H =>
  S134_15 call t0 t2 t3 t23 t25 H) (S134_15 call t0 t2 t3 t23 U H)
noncomputable def S134_17 (call : CallFn) (t0 : AV) (H : AHeap) : R :=
  pO (aNil t0) H fun t8 H =>
  pFa 0 t8 H fun t9 H =>
  ldK .none H t9 fun t10 H =>
  pO (aNil t0) H fun t12 H =>
  pFa 3 t12 H fun t13 H =>
  ldK (.some 5) H t13 fun t14 H =>
  pNew [(.int .i64 (.ofNat 0)), (.int .i64 (.ofNat 0)), (.int .i64 (.ofNat 0)), (.int .i64 (.ofNat 0)), (.int .i64 (.ofNat 0))] H fun t3 H =>
  stK 5 H t3 t14 fun _ H =>
  pFa 0 t3 H fun t15 H =>
  ldK .none H t15 fun t16 H =>
  pEql t16 (.int .i64 (.ofNat 40)) H fun t17 H =>
  onBool t17 (pC call 182 [t0] H fun _ H =>
  some (.tup [], H)) (pFa 0 t3 H fun t20 H =>
  ldK .none H t20 fun t21 H =>
  pEql t21 (.int .i64 (.ofNat 41)) H fun t22 H =>
  guardA t22 true (S134_16 call t0 t10 t3 t22 t10 H) (S134_16 call t0 t10 t3 t22 U H))
noncomputable def S134 : Ff := ⟨fun call l H => argA1 (fun t0 => S134_17 call t0 H) l⟩
/- slices.IndexFunc[[]int,int] -/
noncomputable def S135_0 (call : CallFn) (n : Nat) : AV → AV → AV → AV → AHeap → R :=
  Nat.rec (motive := fun _ => AV → AV → AV → AV → AHeap → R) (fun _ _ _ _ _ => none) (fun _ q0 t0 t1 t7 t8 H => pLss t8 t7 H fun t9 H =>
  onBool t9 (pIa 1 t0 t8 H fun t14 H =>
  ldK .none H t14 fun t15 H =>
  pV call t1 [t15] H fun t16 H =>
  onBool t16 (some (t8, H)) (pAdd t8 (.int .i64 (.ofNat 1)) H fun t18 H =>
  q0 t0 t1 t7 t18 H)) (some ((.int .i64 (.negSucc 0)), H))) n
noncomputable def S135_1 (call : CallFn) (t0 t1 : AV) (H : AHeap) : R :=
  pO (aLen .sl H t0) H fun t7 H =>
  S135_0 call 1000000 t0 t1 t7 (.int .i64 (.ofNat 0)) H
noncomputable def S135 : Ff := ⟨fun call l H => argA2 (fun t0 t1 => S135_1 call t0 t1 H) l⟩
/- slices.pdqsortOrdered[int] -/
noncomputable def S136_1 (call : CallFn) (q0 : AV → AV → AV → AV → AV → AV → AHeap → R) (t0 t1 t2 t3 t8 t9 t10 t11 t75 t86 : AV) (H : AHeap) : R :=
  pPick t75 t86 (.bool false) H fun t87 H =>
  onBool t87 (pC call 196 [t0, t1, t2, t11] H fun t92 H =>
  q0 t0 t92 t2 t3 t8 t9 H) (pC call 197 [t0, t1, t2, t11] H fun t99 H =>
  pExt t99 0 H fun t100 H =>
  pExt t99 1 H fun t101 H =>
  pSub t100 t1 H fun t105 H =>
  pSub t2 t100 H fun t108 H =>
  pO (aBin .quo t10 (.int .i64 (.ofNat 8))) H fun t110 H =>
  pLss t105 t108 H fun t113 H =>
  onBool t113 (pGeq t105 t110 H fun t116 H =>
  pC call 136 [t0, t1, t100, t3] H fun _ H =>
  pAdd t100 (.int .i64 (.ofNat 1)) H fun t123 H =>
  q0 t0 t123 t2 t3 t116 t101 H) (pGeq t108 t110 H fun t126 H =>
  pAdd t100 (.int .i64 (.ofNat 1)) H fun t129 H =>
  pC call 136 [t0, t129, t2, t3] H fun _ H =>
  q0 t0 t1 t100 t3 t126 t101 H))
noncomputable def S136_2 (call : CallFn) (q0 : AV → AV → AV → AV → AV → AV → AHeap → R) (t0 t1 t2 t3 t8 t9 t10 t11 t75 t85 : AV) (H : AHeap) : R :=
  guardA t75 true (pO (aUn .not t85) H fun t86 H =>
  S136_1 call q0 t0 t1 t2 t3 t8 t9 t10 t11 t75 t86 H) (S136_1 call q0 t0 t1 t2 t3 t8 t9 t10 t11 t75 U H)
noncomputable def S136_3 (call : CallFn) (q0 : AV → AV → AV → AV → AV → AV → AHeap → R) (t0 t1 t2 t3 t8 t9 t10 t11 t75 t80 t84 : AV) (H : AHeap) : R :=
  guardA t75 true (pC call 195 [t80, t84] H fun t85 H =>
  S136_2 call q0 t0 t1 t2 t3 t8 t9 t10 t11 t75 t85 H) (S136_2 call q0 t0 t1 t2 t3 t8 t9 t10 t11 t75 U H)
noncomputable def S136_4 (call : CallFn) (q0 : AV → AV → AV → AV → AV → AV → AHeap → R) (t0 t1 t2 t3 t8 t9 t10 t11 t75 t80 t83 : AV) (H : AHeap) : R :=
  guardA t75 true (ldK .none H t83 fun t84 H =>
  S136_3 call q0 t0 t1 t2 t3 t8 t9 t10 t11 t75 t80 t84 H) (S136_3 call q0 t0 t1 t2 t3 t8 t9 t10 t11 t75 t80 U H)
noncomputable def S136_5 (call : CallFn) (q0 : AV → AV → AV → AV → AV → AV → AHeap → R) (t0 t1 t2 t3 t8 t9 t10 t11 t75 t80 t81 t82 : AV) (H : AHeap) : R :=
  guardA t75 true (pIa 1 t81 t82 H fun t83 H =>
  S136_4 call q0 t0 t1 t2 t3 t8 t9 t10 t11 t75 t80 t83 H) (S136_4 call q0 t0 t1 t2 t3 t8 t9 t10 t11 t75 t80 U H)
noncomputable def S136_6 (call : CallFn) (q0 : AV → AV → AV → AV → AV → AV → AHeap → R) (t0 t1 t2 t3 t8 t9 t10 t11 t75 t80 t81 : AV) (H : AHeap) : R :=
  guardA t75 true (S136_5 call q0 t0 t1 t2 t3 t8 t9 t10 t11 t75 t80 t81 t11 H) (S136_5 call q0 t0 t1 t2 t3 t8 t9 t10 t11 t75 t80 t81 U H)
noncomputable def S136_7 (call : CallFn) (q0 : AV → AV → AV → AV → AV → AV → AHeap → R) (t0 t1 t2 t3 t8 t9 t10 t11 t75 t80 : AV) (H : AHeap) : R :=
  guardA t75 true (S136_6 call q0 t0 t1 t2 t3 t8 t9 t10 t11 t75 t80 t0 H) (S136_6 call q0 t0 t1 t2 t3 t8 t9 t10 t11 t75 t80 U H)
noncomputable def S136_8 (call : CallFn) (q0 : AV → AV → AV → AV → AV → AV → AHeap → R) (t0 t1 t2 t3 t8 t9 t10 t11 t75 t79 : AV) (H : AHeap) : R :=
  guardA t75 true (ldK .none H t79 fun t80 H =>
  S136_7 call q0 t0 t1 t2 t3 t8 t9 t10 t11 t75 t80 H) (S136_7 call q0 t0 t1 t2 t3 t8 t9 t10 t11 t75 U H)
noncomputable def S136_9 (call : CallFn) (q0 : AV → AV → AV → AV → AV → AV → AHeap → R) (t0 t1 t2 t3 t8 t9 t10 t11 t75 t76 t78 : AV) (H : AHeap) : R :=
  guardA t75 true (pIa 1 t76 t78 H fun t79 H =>
  S136_8 call q0 t0 t1 t2 t3 t8 t9 t10 t11 t75 t79 H) (S136_8 call q0 t0 t1 t2 t3 t8 t9 t10 t11 t75 U H)
noncomputable def S136_10 (call : CallFn) (q0 : AV → AV → AV → AV → AV → AV → AHeap → R) (t0 t1 t2 t3 t8 t9 t10 t11 t75 t76 t77 : AV) (H : AHeap) : R :=
  guardA t75 true (pSub t77 (.int .i64 (.ofNat 1)) H fun t78 H =>
  S136_9 call q0 t0 t1 t2 t3 t8 t9 t10 t11 t75 t76 t78 H) (S136_9 call q0 t0 t1 t2 t3 t8 t9 t10 t11 t75 t76 U H)
noncomputable def S136_11 (call : CallFn) (q0 : AV → AV → AV → AV → AV → AV → AHeap → R) (t0 t1 t2 t3 t8 t9 t10 t11 t75 t76 : AV) (H : AHeap) : R :=
  guardA t75 true (S136_10 call q0 t0 t1 t2 t3 t8 t9 t10 t11 t75 t76 t1 H) (S136_10 call q0 t0 t1 t2 t3 t8 t9 t10 t11 t75 t76 U H)
noncomputable def S136_12 (call : CallFn) (q0 : AV → AV → AV → AV → AV → AV → AHeap → R) (t0 t1 t2 t3 t8 t9 t10 t11 : AV) (H : AHeap) : R :=
  pGtr t1 (.int .i64 (.ofNat 0)) H fun t74 H =>
  guardA t74 true (S136_11 call q0 t0 t1 t2 t3 t8 t9 t10 t11 t74 t0 H) (S136_11 call q0 t0 t1 t2 t3 t8 t9 t10 t11 t74 U H)
noncomputable def S136_13 (call : CallFn) (q0 : AV → AV → AV → AV → AV → AV → AHeap → R) (t0 t1 t2 t3 t8 t9 t10 t11 t65 t67 : AV) (H : AHeap) : R :=
  pPick t65 t67 (.bool false) H fun t68 H =>
  onBool t68 (pC call 194 [t0, t1, t2] H fun t72 H =>
  onBool t72 (some (.tup [], H)) (S136_12 call q0 t0 t1 t2 t3 t8 t9 t10 t11 H)) (S136_12 call q0 t0 t1 t2 t3 t8 t9 t10 t11 H)
noncomputable def S136_14 (call : CallFn) (q0 : AV → AV → AV → AV → AV → AV → AHeap → R) (t0 t1 t2 t3 t8 t9 t10 t11 t12 t62 t63 : AV) (H : AHeap) : R :=
  pPick t62 t63 (.bool false) H fun t64 H =>
  guardA t64 true (pEql t12 (.int .i64 (.ofNat 1)) H fun t67 H =>
  S136_13 call q0 t0 t1 t2 t3 t8 t9 t10 t11 t64 t67 H) (S136_13 call q0 t0 t1 t2 t3 t8 t9 t10 t11 t64 U H)
noncomputable def S136_15 (call : CallFn) (q0 : AV → AV → AV → AV → AV → AV → AHeap → R) (t0 t1 t2 t3 t8 t9 t10 t11 t12 : AV) (H : AHeap) : R :=
  guardA t8 true (S136_14 call q0 t0 t1 t2 t3 t8 t9 t10 t11 t12 t8 t9 H) (S136_14 call q0 t0 t1 t2 t3 t8 t9 t10 t11 t12 t8 U H)
noncomputable def S136_16 (call : CallFn) (q0 : AV → AV → AV → AV → AV → AV → AHeap → R) (t0 t1 t2 t3 t8 t9 t10 : AV) (H : AHeap) : R :=
  pC call 192 [t0, t1, t2] H fun t46 H =>
  pExt t46 0 H fun t47 H =>
  pExt t46 1 H fun t48 H =>
  pEql t48 (.int .i64 (.ofNat 2)) H fun t50 H =>
  onBool t50 (pC call 193 [t0, t1, t2] H fun _ H =>
  pSub t2 (.int .i64 (.ofNat 1)) H fun t56 H =>
  pSub t47 t1 H fun t59 H =>
  pSub t56 t59 H fun t60 H =>
  S136_15 call q0 t0 t1 t2 t3 t8 t9 t10 t60 (.int .i64 (.ofNat 1)) H) (S136_15 call q0 t0 t1 t2 t3 t8 t9 t10 t47 t48 H)
noncomputable def S136_0 (call : CallFn) (n : Nat) : AV → AV → AV → AV → AV → AV → AHeap → R :=
  Nat.rec (motive := fun _ => AV → AV → AV → AV → AV → AV → AHeap → R) (fun _ _ _ _ _ _ _ => none) (fun _ q0 t0 t1 t2 t3 t8 t9 H => pSub t2 t1 H fun t21 H =>
  pLeq t21 (.int .i64 (.ofNat 12)) H fun t23 H =>
  onBool t23 (pC call 189 [t0, t1, t2] H fun _ H =>
  some (.tup [], H)) (pEql t3 (.int .i64 (.ofNat 0)) H fun t29 H =>
  onBool t29 (pC call 190 [t0, t1, t2] H fun _ H =>
  some (.tup [], H)) (pO (aUn .not t8) H fun t35 H =>
  onBool t35 (pC call 191 [t0, t1, t2] H fun _ H =>
  pSub t3 (.int .i64 (.ofNat 1)) H fun t41 H =>
  S136_16 call q0 t0 t1 t2 t41 t8 t9 t21 H) (S136_16 call q0 t0 t1 t2 t3 t8 t9 t21 H)))) n
noncomputable def S136 : Ff := ⟨fun call l H => argA4 (fun t0 t1 t2 t3 => S136_0 call 1000000 t0 t1 t2 t3 (.bool true) (.bool true) H) l⟩
/- math/bits.Len -/
noncomputable def S137_0 (call : CallFn) (t0 : AV) (H : AHeap) : R :=
  onBool (.bool false) (pConv .u32 t0 H fun t4 H =>
  pC call 198 [t4] H fun t5 H =>
  some (t5, H)) (pC call 199 [t0] H fun t7 H =>
  some (t7, H))
noncomputable def S137 : Ff := ⟨fun call l H => argA1 (fun t0 => S137_0 call t0 H) l⟩
/- gantline/live.given$1 -/
noncomputable def S138_0 (_ : CallFn) (t0 : AV) (H : AHeap) : R :=
  pEql t0 (.int .i64 (.negSucc 0)) H fun t4 H =>
  some (t4, H)
noncomputable def S138 : Ff := ⟨fun call l H => argA1 (fun t0 => S138_0 call t0 H) l⟩
/- gantline/verify.module -/
noncomputable def S139_0 (_ : CallFn) (t79 t82 : AV) (H : AHeap) : R :=
  pPick t79 (.bool true) t82 H fun t83 H =>
  onBool t83 (some ((.int .i64 (.ofNat 2)), H)) (some ((.int .i64 (.ofNat 0)), H))
noncomputable def S139_1 (call : CallFn) (t5 t74 t77 : AV) (H : AHeap) : R :=
  pPick t74 (.bool true) t77 H fun t78 H =>
  guardA t78 false (pFa 3 t5 H fun t80 H =>
  ldK .none H t80 fun t81 H =>
  pNeq t81 (.int .i64 (.ofNat 0)) H fun t82 H =>
  S139_0 call t78 t82 H) (S139_0 call t78 U H)
noncomputable def S139_2 (call : CallFn) (t1 t57 t63 : AV) (H : AHeap) : R :=
  pPick t57 (.bool true) t63 H fun t64 H =>
  onBool t64 (some ((.int .i64 (.ofNat 2)), H)) (pFa 4 t1 H fun t65 H =>
  ldK .none H t65 fun t66 H =>
  pFa 5 t1 H fun t67 H =>
  ldK .none H t67 fun t68 H =>
  pIa 7 t66 t68 H fun t69 H =>
  ldK (.some 7) H t69 fun t70 H =>
  pNew [(.int .i64 (.ofNat 0)), (.int .i64 (.ofNat 0)), (.int .i64 (.ofNat 0)), (.int .i64 (.ofNat 0)), .nilsl, .nilsl, .nilsl] H fun t5 H =>
  stK 7 H t5 t70 fun _ H =>
  pFa 0 t5 H fun t71 H =>
  ldK .none H t71 fun t72 H =>
  pNeq t72 (.int .i64 (.ofNat 0)) H fun t73 H =>
  guardA t73 false (pFa 1 t5 H fun t75 H =>
  ldK .none H t75 fun t76 H =>
  pNeq t76 (.int .i64 (.ofNat 0)) H fun t77 H =>
  S139_1 call t5 t73 t77 H) (S139_1 call t5 t73 U H))
noncomputable def S139_3 (call : CallFn) (t1 t47 t51 : AV) (H : AHeap) : R :=
  pPick t47 (.bool true) t51 H fun t52 H =>
  onBool t52 (some ((.int .i64 (.ofNat 1)), H)) (pFa 5 t1 H fun t54 H =>
  ldK .none H t54 fun t55 H =>
  pLss t55 (.int .i64 (.ofNat 0)) H fun t56 H =>
  guardA t56 false (pFa 5 t1 H fun t58 H =>
  ldK .none H t58 fun t59 H =>
  pFa 4 t1 H fun t60 H =>
  ldK .none H t60 fun t61 H =>
  pO (aLen .sl H t61) H fun t62 H =>
  pGeq t59 t62 H fun t63 H =>
  S139_2 call t1 t56 t63 H) (S139_2 call t1 t56 U H))
noncomputable def S139_4 (call : CallFn) (t1 t41 t45 : AV) (H : AHeap) : R :=
  pPick t41 (.bool true) t45 H fun t46 H =>
  guardA t46 false (pFa 4 t1 H fun t48 H =>
  ldK .none H t48 fun t49 H =>
  pO (aLen .sl H t49) H fun t50 H =>
  pLss t50 (.int .i64 (.ofNat 1)) H fun t51 H =>
  S139_3 call t1 t46 t51 H) (S139_3 call t1 t46 U H)
noncomputable def S139_5 (call : CallFn) (t1 t35 t39 : AV) (H : AHeap) : R :=
  pPick t35 (.bool true) t39 H fun t40 H =>
  guardA t40 false (pFa 4 t1 H fun t42 H =>
  ldK .none H t42 fun t43 H =>
  pO (aLen .sl H t43) H fun t44 H =>
  pGtr t44 (.int .i64 (.ofNat 128)) H fun t45 H =>
  S139_4 call t1 t40 t45 H) (S139_4 call t1 t40 U H)
noncomputable def S139_6 (call : CallFn) (t1 t29 t33 : AV) (H : AHeap) : R :=
  pPick t29 (.bool true) t33 H fun t34 H =>
  guardA t34 false (pFa 3 t1 H fun t36 H =>
  ldK .none H t36 fun t37 H =>
  pO (aLen .sl H t37) H fun t38 H =>
  pGtr t38 (.int .i64 (.ofNat 1024)) H fun t39 H =>
  S139_5 call t1 t34 t39 H) (S139_5 call t1 t34 U H)
noncomputable def S139_7 (call : CallFn) (t1 t4 t23 t27 : AV) (H : AHeap) : R :=
  pPick t23 (.bool true) t27 H fun t28 H =>
  guardA t28 false (pFa 2 t1 H fun t30 H =>
  ldK .none H t30 fun t31 H =>
  pC call 204 [t31, t4] H fun t33 H =>
  S139_6 call t1 t28 t33 H) (S139_6 call t1 t28 U H)
noncomputable def S139_8 (call : CallFn) (t1 t4 t17 t21 : AV) (H : AHeap) : R :=
  pPick t17 (.bool true) t21 H fun t22 H =>
  guardA t22 false (pFa 2 t1 H fun t24 H =>
  ldK .none H t24 fun t25 H =>
  pO (aLen .sl H t25) H fun t26 H =>
  pGtr t26 (.int .i64 (.ofNat 4096)) H fun t27 H =>
  S139_7 call t1 t4 t22 t27 H) (S139_7 call t1 t4 t22 U H)
noncomputable def S139_9 (call : CallFn) (t1 t4 t11 t15 : AV) (H : AHeap) : R :=
  pPick t11 (.bool true) t15 H fun t16 H =>
  guardA t16 false (pFa 1 t1 H fun t18 H =>
  ldK .none H t18 fun t19 H =>
  pO (aLen .sl H t19) H fun t20 H =>
  pGtr t20 (.int .i64 (.ofNat 256)) H fun t21 H =>
  S139_8 call t1 t4 t16 t21 H) (S139_8 call t1 t4 t16 U H)
noncomputable def S139_10 (call : CallFn) (t0 : AV) (H : AHeap) : R :=
  pBox t0 H fun t1 H =>
  pFa 0 t1 H fun t7 H =>
  ldK .none H t7 fun t8 H =>
  pC call 203 [t8, (.fn 200 [] [])] H fun t10 H =>
  guardA t10 false (pFa 0 t1 H fun t12 H =>
  ldK .none H t12 fun t13 H =>
  pO (aLen .sl H t13) H fun t14 H =>
  pGtr t14 (.int .i64 (.ofNat 1024)) H fun t15 H =>
  S139_9 call t1 (.fn 201 [] []) t10 t15 H) (S139_9 call t1 (.fn 201 [] []) t10 U H)
noncomputable def S139 : Ff := ⟨fun call l H => argA1 (fun t0 => S139_10 call t0 H) l⟩
/- gantline/verify.whole -/
noncomputable def S140_0 (_ : CallFn) (t73 t78 : AV) (H : AHeap) : R :=
  pPick t73 t78 (.bool false) H fun t79 H =>
  some (t79, H)
noncomputable def S140_1 (call : CallFn) (t1 t3 t69 t71 : AV) (H : AHeap) : R :=
  pPick t69 t71 (.bool false) H fun t72 H =>
  guardA t72 true (pFa 6 t1 H fun t74 H =>
  ldK .none H t74 fun t75 H =>
  pO (aLen .sl H t75) H fun t76 H =>
  pEql t76 t3 H fun t78 H =>
  S140_0 call t72 t78 H) (S140_0 call t72 U H)
noncomputable def S140_2 (call : CallFn) (t1 t3 t65 t67 : AV) (H : AHeap) : R :=
  pPick t65 t67 (.bool false) H fun t68 H =>
  guardA t68 true (pLeq t3 (.int .i64 (.ofNat 4096)) H fun t71 H =>
  S140_1 call t1 t3 t68 t71 H) (S140_1 call t1 t3 t68 U H)
noncomputable def S140_3 (call : CallFn) (t1 t3 t60 t63 : AV) (H : AHeap) : R :=
  pPick t60 t63 (.bool false) H fun t64 H =>
  guardA t64 true (pGeq t3 (.int .i64 (.ofNat 1)) H fun t67 H =>
  S140_2 call t1 t3 t64 t67 H) (S140_2 call t1 t3 t64 U H)
noncomputable def S140_4 (call : CallFn) (t1 t3 t55 t58 : AV) (H : AHeap) : R :=
  pPick t55 t58 (.bool false) H fun t59 H =>
  guardA t59 true (pFa 3 t1 H fun t61 H =>
  ldK .none H t61 fun t62 H =>
  pLeq t62 (.int .i64 (.ofNat 2)) H fun t63 H =>
  S140_3 call t1 t3 t59 t63 H) (S140_3 call t1 t3 t59 U H)
noncomputable def S140_5 (call : CallFn) (t1 t3 t47 t53 : AV) (H : AHeap) : R :=
  pPick t47 t53 (.bool false) H fun t54 H =>
  guardA t54 true (pFa 3 t1 H fun t56 H =>
  ldK .none H t56 fun t57 H =>
  pGeq t57 (.int .i64 (.ofNat 0)) H fun t58 H =>
  S140_4 call t1 t3 t54 t58 H) (S140_4 call t1 t3 t54 U H)
noncomputable def S140_6 (call : CallFn) (t1 t3 t37 t45 : AV) (H : AHeap) : R :=
  pPick t37 t45 (.bool false) H fun t46 H =>
  guardA t46 true (pFa 4 t1 H fun t48 H =>
  ldK .none H t48 fun t49 H =>
  pO (aLen .sl H t49) H fun t50 H =>
  pFa 2 t1 H fun t51 H =>
  ldK .none H t51 fun t52 H =>
  pEql t50 t52 H fun t53 H =>
  S140_5 call t1 t3 t46 t53 H) (S140_5 call t1 t3 t46 U H)
noncomputable def S140_7 (call : CallFn) (t1 t3 t30 t35 : AV) (H : AHeap) : R :=
  pPick t30 t35 (.bool false) H fun t36 H =>
  guardA t36 true (pFa 1 t1 H fun t38 H =>
  ldK .none H t38 fun t39 H =>
  pFa 2 t1 H fun t40 H =>
  ldK .none H t40 fun t41 H =>
  pFa 0 t1 H fun t42 H =>
  ldK .none H t42 fun t43 H =>
  pSub t41 t43 H fun t44 H =>
  pLeq t39 t44 H fun t45 H =>
  S140_6 call t1 t3 t36 t45 H) (S140_6 call t1 t3 t36 U H)
noncomputable def S140_8 (call : CallFn) (t1 t3 t25 t28 : AV) (H : AHeap) : R :=
  pPick t25 t28 (.bool false) H fun t29 H =>
  guardA t29 true (pFa 0 t1 H fun t31 H =>
  ldK .none H t31 fun t32 H =>
  pFa 2 t1 H fun t33 H =>
  ldK .none H t33 fun t34 H =>
  pLeq t32 t34 H fun t35 H =>
  S140_7 call t1 t3 t29 t35 H) (S140_7 call t1 t3 t29 U H)
noncomputable def S140_9 (call : CallFn) (t1 t3 t20 t23 : AV) (H : AHeap) : R :=
  pPick t20 t23 (.bool false) H fun t24 H =>
  guardA t24 true (pFa 2 t1 H fun t26 H =>
  ldK .none H t26 fun t27 H =>
  pLeq t27 (.int .i64 (.ofNat 64)) H fun t28 H =>
  S140_8 call t1 t3 t24 t28 H) (S140_8 call t1 t3 t24 U H)
noncomputable def S140_10 (call : CallFn) (t1 t3 t15 t18 : AV) (H : AHeap) : R :=
  pPick t15 t18 (.bool false) H fun t19 H =>
  guardA t19 true (pFa 2 t1 H fun t21 H =>
  ldK .none H t21 fun t22 H =>
  pGeq t22 (.int .i64 (.ofNat 0)) H fun t23 H =>
  S140_9 call t1 t3 t19 t23 H) (S140_9 call t1 t3 t19 U H)
noncomputable def S140_11 (call : CallFn) (t1 t3 t10 t13 : AV) (H : AHeap) : R :=
  pPick t10 t13 (.bool false) H fun t14 H =>
  guardA t14 true (pFa 1 t1 H fun t16 H =>
  ldK .none H t16 fun t17 H =>
  pLeq t17 (.int .i64 (.ofNat 62)) H fun t18 H =>
  S140_10 call t1 t3 t14 t18 H) (S140_10 call t1 t3 t14 U H)
noncomputable def S140_12 (call : CallFn) (t0 : AV) (H : AHeap) : R :=
  pBox t0 H fun t1 H =>
  pFa 5 t1 H fun t4 H =>
  ldK .none H t4 fun t5 H =>
  pO (aLen .sl H t5) H fun t6 H =>
  pFa 0 t1 H fun t7 H =>
  ldK .none H t7 fun t8 H =>
  pGeq t8 (.int .i64 (.ofNat 0)) H fun t9 H =>
  guardA t9 true (pFa 1 t1 H fun t11 H =>
  ldK .none H t11 fun t12 H =>
  pGeq t12 (.int .i64 (.ofNat 0)) H fun t13 H =>
  S140_11 call t1 t6 t9 t13 H) (S140_11 call t1 t6 t9 U H)
noncomputable def S140 : Ff := ⟨fun call l H => argA1 (fun t0 => S140_12 call t0 H) l⟩
/- slices.Contains[[]int,int] -/
noncomputable def S141_0 (call : CallFn) (t0 t1 : AV) (H : AHeap) : R :=
  pC call 205 [t0, t1] H fun t7 H =>
  pGeq t7 (.int .i64 (.ofNat 0)) H fun t8 H =>
  some (t8, H)
noncomputable def S141 : Ff := ⟨fun call l H => argA2 (fun t0 t1 => S141_0 call t0 t1 H) l⟩
/- (*gantline/verify.checker).rule -/
noncomputable def S142_0 (call : CallFn) (t0 t1 : AV) (H : AHeap) : R :=
  pEql t1 (.int .i64 (.ofNat 4)) H fun t7 H =>
  onBool t7 (pC call 206 [t0] H fun t9 H =>
  some (t9, H)) (pEql t1 (.int .i64 (.ofNat 5)) H fun t11 H =>
  onBool t11 (pC call 207 [t0] H fun t13 H =>
  some (t13, H)) (pEql t1 (.int .i64 (.ofNat 6)) H fun t15 H =>
  onBool t15 (pC call 208 [t0] H fun t17 H =>
  some (t17, H)) (pEql t1 (.int .i64 (.ofNat 7)) H fun t19 H =>
  onBool t19 (pC call 209 [t0] H fun t21 H =>
  some (t21, H)) (pEql t1 (.int .i64 (.ofNat 8)) H fun t23 H =>
  onBool t23 (pC call 210 [t0] H fun t25 H =>
  some (t25, H)) (pEql t1 (.int .i64 (.ofNat 9)) H fun t27 H =>
  onBool t27 (pO (aNil t0) H fun t29 H =>
  pFa 6 t29 H fun t30 H =>
  pFa 6 t30 H fun t31 H =>
  ldK .none H t31 fun t32 H =>
  pO (aNil t0) H fun t34 H =>
  pFa 16 t34 H fun t35 H =>
  ldK .none H t35 fun t36 H =>
  pIa 1 t32 t36 H fun t37 H =>
  ldK .none H t37 fun t38 H =>
  pO (aNil t0) H fun t40 H =>
  pFa 13 t40 H fun t41 H =>
  ldK .none H t41 fun t42 H =>
  pO (aNil t0) H fun t44 H =>
  pFa 16 t44 H fun t45 H =>
  ldK .none H t45 fun t46 H =>
  pIa 1 t42 t46 H fun t47 H =>
  ldK .none H t47 fun t48 H =>
  pEql t38 t48 H fun t49 H =>
  some (t49, H)) (pC call 211 [t0] H fun t51 H =>
  some (t51, H)))))))
noncomputable def S142 : Ff := ⟨fun call l H => argA2 (fun t0 t1 => S142_0 call t0 t1 H) l⟩
/- (*gantline/arena.Arena).Spans -/
noncomputable def S143_0 (_ : CallFn) (t0 : AV) (H : AHeap) : R :=
  pO (aNil t0) H fun t4 H =>
  pFa 1 t4 H fun t5 H =>
  ldK .none H t5 fun t6 H =>
  pO (aLen .sl H t6) H fun t7 H =>
  some (t7, H)
noncomputable def S143 : Ff := ⟨fun call l H => argA1 (fun t0 => S143_0 call t0 H) l⟩
/- gantline/grey.New -/
noncomputable def S144_0 (_ : CallFn) (H : AHeap) : R :=
  pO (someAgg (aFill [.nilsl] [])) H fun t1 H =>
  pBox t1 H fun t2 H =>
  some (t2, H)
noncomputable def S144 : Ff := ⟨fun call l H => argA0 (S144_0 call H) l⟩
/- maps.Keys[map[int]*gantline/frame.Stack,int,*gantline/frame.Stack] -/
noncomputable def S146_0 (_ : CallFn) (t0 : AV) (H : AHeap) : R :=
  pBox t0 H fun t1 H =>
  some ((.fn 213 [] [t1]), H)
noncomputable def S146 : Ff := ⟨fun call l H => argA1 (fun t0 => S146_0 call t0 H) l⟩
/- (*gantline/sched.Table).offers -/
noncomputable def S147_1 (_ : CallFn) (q0 : AV → AV → AV → AV → AV → AV → AV → AV → AHeap → R) (t0 t1 t2 t10 t11 t85 t86 t87 : AV) (H : AHeap) : R :=
  pAdd t87 (.int .i64 (.ofNat 1)) H fun t113 H =>
  q0 t0 t1 t2 t10 t11 t85 t86 t113 H
noncomputable def S147_2 (call : CallFn) (q0 : AV → AV → AV → AV → AV → AV → AV → AV → AHeap → R) (t0 t1 t2 t10 t11 t12 t13 t85 t86 t87 t95 : AV) (H : AHeap) : R :=
  onBool t95 (pFa 0 t13 H fun t103 H =>
  ldK .none H t103 fun t104 H =>
  pEql t104 (.int .i64 (.ofNat 1)) H fun t105 H =>
  pFa 1 t13 H fun t106 H =>
  ldK .none H t106 fun t107 H =>
  pFa 2 t13 H fun t108 H =>
  ldK .none H t108 fun t109 H =>
  pC call 214 [t0, t1, t2, t12, t105, t107, t109] H fun t110 H =>
  pN (aBsl 4 1 [(.int .i64 (.ofNat 0)), (.bool false), (.int .i64 (.ofNat 0)), (.bool false)] [(0, 4, t110)]) H fun t111 H =>
  pW (aApp 4 32 H t10 t111) fun t112 H =>
  S147_1 call q0 t0 t1 t2 t112 t11 t85 t86 t87 H) (S147_1 call q0 t0 t1 t2 t10 t12 t85 t86 t87 H)
noncomputable def S147_0 (call : CallFn) (n : Nat) : AV → AV → AV → AV → AV → AV → AV → AV → AHeap → R :=
  Nat.rec (motive := fun _ => AV → AV → AV → AV → AV → AV → AV → AV → AHeap → R) (fun _ _ _ _ _ _ _ _ _ => none) (fun _ q0 t0 t1 t2 t10 t11 t85 t86 t87 H => pLss t87 t86 H fun t88 H =>
  onBool t88 (pIa 4 t85 t87 H fun t90 H =>
  ldK (.some 4) H t90 fun t91 H =>
  pNew [(.int .i64 (.ofNat 0)), (.int .i64 (.ofNat 0)), (.int .i64 (.ofNat 0)), (.int .i64 (.ofNat 0))] H fun t13 H =>
  stK 4 H t13 t91 fun _ H =>
  pFa 0 t13 H fun t92 H =>
  ldK .none H t92 fun t93 H =>
  pEql t93 (.int .i64 (.ofNat 0)) H fun t96 H =>
  onBool t96 (S147_2 call q0 t0 t1 t2 t10 t11 t87 t13 t85 t86 t87 t96 H) (pEql t93 (.int .i64 (.ofNat 1)) H fun t97 H =>
  S147_2 call q0 t0 t1 t2 t10 t11 t87 t13 t85 t86 t87 t97 H)) (some (.tup [t10, t11], H))) n
noncomputable def S147_3 (call : CallFn) (t0 t1 t2 t7 t59 t71 : AV) (H : AHeap) : R :=
  pPick t59 (.bool true) t71 H fun t72 H =>
  onBool t72 (some (.tup [.nilsl, (.int .i64 (.negSucc 0))], H)) (pO (aNil t0) H fun t74 H =>
  pFa 0 t74 H fun t75 H =>
  pFa 3 t75 H fun t76 H =>
  ldK .none H t76 fun t77 H =>
  pFa 1 t7 H fun t78 H =>
  ldK .none H t78 fun t79 H =>
  pFa 1 t7 H fun t80 H =>
  ldK .none H t80 fun t81 H =>
  pFa 2 t7 H fun t82 H =>
  ldK .none H t82 fun t83 H =>
  pAdd t81 t83 H fun t84 H =>
  pO (aSlice 4 H t77 (.some t79) (.some t84) .none) H fun t85 H =>
  pO (aLen .sl H t85) H fun t86 H =>
  S147_0 call 1000000 t0 t1 t2 .nilsl (.int .i64 (.negSucc 0)) t85 t86 (.int .i64 (.ofNat 0)) H)
noncomputable def S147_4 (call : CallFn) (t0 t1 t2 t7 t59 t61 t70 : AV) (H : AHeap) : R :=
  guardA t59 false (pGtr t61 t70 H fun t71 H =>
  S147_3 call t0 t1 t2 t7 t59 t71 H) (S147_3 call t0 t1 t2 t7 t59 U H)
noncomputable def S147_5 (call : CallFn) (t0 t1 t2 t7 t59 t61 t67 t69 : AV) (H : AHeap) : R :=
  guardA t59 false (pSub t67 t69 H fun t70 H =>
  S147_4 call t0 t1 t2 t7 t59 t61 t70 H) (S147_4 call t0 t1 t2 t7 t59 t61 U H)
noncomputable def S147_6 (call : CallFn) (t0 t1 t2 t7 t59 t61 t67 t68 : AV) (H : AHeap) : R :=
  guardA t59 false (ldK .none H t68 fun t69 H =>
  S147_5 call t0 t1 t2 t7 t59 t61 t67 t69 H) (S147_5 call t0 t1 t2 t7 t59 t61 t67 U H)
noncomputable def S147_7 (call : CallFn) (t0 t1 t2 t7 t59 t61 t67 : AV) (H : AHeap) : R :=
  guardA t59 false (pFa 1 t7 H fun t68 H =>
  S147_6 call t0 t1 t2 t7 t59 t61 t67 t68 H) (S147_6 call t0 t1 t2 t7 t59 t61 t67 U H)
noncomputable def S147_8 (call : CallFn) (t0 t1 t2 t7 t59 t61 t66 : AV) (H : AHeap) : R :=
  guardA t59 false (pO (aLen .sl H t66) H fun t67 H =>
  S147_7 call t0 t1 t2 t7 t59 t61 t67 H) (S147_7 call t0 t1 t2 t7 t59 t61 U H)
noncomputable def S147_9 (call : CallFn) (t0 t1 t2 t7 t59 t61 t65 : AV) (H : AHeap) : R :=
  guardA t59 false (ldK .none H t65 fun t66 H =>
  S147_8 call t0 t1 t2 t7 t59 t61 t66 H) (S147_8 call t0 t1 t2 t7 t59 t61 U H)
noncomputable def S147_10 (call : CallFn) (t0 t1 t2 t7 t59 t61 t64 : AV) (H : AHeap) : R :=
  guardA t59 false (pFa 3 t64 H fun t65 H =>
  S147_9 call t0 t1 t2 t7 t59 t61 t65 H) (S147_9 call t0 t1 t2 t7 t59 t61 U H)
noncomputable def S147_11 (call : CallFn) (t0 t1 t2 t7 t59 t61 t63 : AV) (H : AHeap) : R :=
  guardA t59 false (pFa 0 t63 H fun t64 H =>
  S147_10 call t0 t1 t2 t7 t59 t61 t64 H) (S147_10 call t0 t1 t2 t7 t59 t61 U H)
noncomputable def S147_12 (call : CallFn) (t0 t1 t2 t7 t59 t61 t62 : AV) (H : AHeap) : R :=
  guardA t59 false (pO (aNil t62) H fun t63 H =>
  S147_11 call t0 t1 t2 t7 t59 t61 t63 H) (S147_11 call t0 t1 t2 t7 t59 t61 U H)
noncomputable def S147_13 (call : CallFn) (t0 t1 t2 t7 t59 t61 : AV) (H : AHeap) : R :=
  guardA t59 false (S147_12 call t0 t1 t2 t7 t59 t61 t0 H) (S147_12 call t0 t1 t2 t7 t59 t61 U H)
noncomputable def S147_14 (call : CallFn) (t0 t1 t2 t7 t59 t60 : AV) (H : AHeap) : R :=
  guardA t59 false (ldK .none H t60 fun t61 H =>
  S147_13 call t0 t1 t2 t7 t59 t61 H) (S147_13 call t0 t1 t2 t7 t59 U H)
noncomputable def S147_15 (call : CallFn) (t0 t1 t2 t7 t48 t57 : AV) (H : AHeap) : R :=
  pPick t48 (.bool true) t57 H fun t58 H =>
  guardA t58 false (pFa 2 t7 H fun t60 H =>
  S147_14 call t0 t1 t2 t7 t58 t60 H) (S147_14 call t0 t1 t2 t7 t58 U H)
noncomputable def S147_16 (call : CallFn) (t0 t1 t2 t7 t48 t50 t56 : AV) (H : AHeap) : R :=
  guardA t48 false (pGtr t50 t56 H fun t57 H =>
  S147_15 call t0 t1 t2 t7 t48 t57 H) (S147_15 call t0 t1 t2 t7 t48 U H)
noncomputable def S147_17 (call : CallFn) (t0 t1 t2 t7 t48 t50 t55 : AV) (H : AHeap) : R :=
  guardA t48 false (pO (aLen .sl H t55) H fun t56 H =>
  S147_16 call t0 t1 t2 t7 t48 t50 t56 H) (S147_16 call t0 t1 t2 t7 t48 t50 U H)
noncomputable def S147_18 (call : CallFn) (t0 t1 t2 t7 t48 t50 t54 : AV) (H : AHeap) : R :=
  guardA t48 false (ldK .none H t54 fun t55 H =>
  S147_17 call t0 t1 t2 t7 t48 t50 t55 H) (S147_17 call t0 t1 t2 t7 t48 t50 U H)
noncomputable def S147_19 (call : CallFn) (t0 t1 t2 t7 t48 t50 t53 : AV) (H : AHeap) : R :=
  guardA t48 false (pFa 3 t53 H fun t54 H =>
  S147_18 call t0 t1 t2 t7 t48 t50 t54 H) (S147_18 call t0 t1 t2 t7 t48 t50 U H)
noncomputable def S147_20 (call : CallFn) (t0 t1 t2 t7 t48 t50 t52 : AV) (H : AHeap) : R :=
  guardA t48 false (pFa 0 t52 H fun t53 H =>
  S147_19 call t0 t1 t2 t7 t48 t50 t53 H) (S147_19 call t0 t1 t2 t7 t48 t50 U H)
noncomputable def S147_21 (call : CallFn) (t0 t1 t2 t7 t48 t50 t51 : AV) (H : AHeap) : R :=
  guardA t48 false (pO (aNil t51) H fun t52 H =>
  S147_20 call t0 t1 t2 t7 t48 t50 t52 H) (S147_20 call t0 t1 t2 t7 t48 t50 U H)
noncomputable def S147_22 (call : CallFn) (t0 t1 t2 t7 t48 t50 : AV) (H : AHeap) : R :=
  guardA t48 false (S147_21 call t0 t1 t2 t7 t48 t50 t0 H) (S147_21 call t0 t1 t2 t7 t48 t50 U H)
noncomputable def S147_23 (call : CallFn) (t0 t1 t2 t7 t48 t49 : AV) (H : AHeap) : R :=
  guardA t48 false (ldK .none H t49 fun t50 H =>
  S147_22 call t0 t1 t2 t7 t48 t50 H) (S147_22 call t0 t1 t2 t7 t48 U H)
noncomputable def S147_24 (call : CallFn) (t0 t1 t2 t7 t43 t46 : AV) (H : AHeap) : R :=
  pPick t43 (.bool true) t46 H fun t47 H =>
  guardA t47 false (pFa 1 t7 H fun t49 H =>
  S147_23 call t0 t1 t2 t7 t47 t49 H) (S147_23 call t0 t1 t2 t7 t47 U H)
noncomputable def S147_25 (call : CallFn) (t0 t1 t2 t7 t43 t45 : AV) (H : AHeap) : R :=
  guardA t43 false (pLss t45 (.int .i64 (.ofNat 0)) H fun t46 H =>
  S147_24 call t0 t1 t2 t7 t43 t46 H) (S147_24 call t0 t1 t2 t7 t43 U H)
noncomputable def S147_26 (call : CallFn) (t0 t1 t2 t7 t43 t44 : AV) (H : AHeap) : R :=
  guardA t43 false (ldK .none H t44 fun t45 H =>
  S147_25 call t0 t1 t2 t7 t43 t45 H) (S147_25 call t0 t1 t2 t7 t43 U H)
noncomputable def S147_27 (call : CallFn) (t0 t1 t2 t3 : AV) (H : AHeap) : R :=
  pBox t3 H fun t7 H =>
  pFa 0 t7 H fun t14 H =>
  ldK .none H t14 fun t15 H =>
  pEql t15 (.int .i64 (.ofNat 38)) H fun t17 H =>
  onBool t17 (pFa 1 t7 H fun t21 H =>
  ldK .none H t21 fun t22 H =>
  pFa 2 t7 H fun t23 H =>
  ldK .none H t23 fun t24 H =>
  pC call 214 [t0, t1, t2, (.int .i64 (.negSucc 0)), (.bool true), t22, t24] H fun t25 H =>
  pN (aBsl 4 1 [(.int .i64 (.ofNat 0)), (.bool false), (.int .i64 (.ofNat 0)), (.bool false)] [(0, 4, t25)]) H fun t26 H =>
  some (.tup [t26, (.int .i64 (.negSucc 0))], H)) (pEql t15 (.int .i64 (.ofNat 39)) H fun t28 H =>
  onBool t28 (pFa 2 t7 H fun t32 H =>
  ldK .none H t32 fun t33 H =>
  pFa 1 t7 H fun t34 H =>
  ldK .none H t34 fun t35 H =>
  pC call 214 [t0, t1, t2, (.int .i64 (.negSucc 0)), (.bool false), t33, t35] H fun t36 H =>
  pN (aBsl 4 1 [(.int .i64 (.ofNat 0)), (.bool false), (.int .i64 (.ofNat 0)), (.bool false)] [(0, 4, t36)]) H fun t37 H =>
  some (.tup [t37, (.int .i64 (.negSucc 0))], H)) (pEql t15 (.int .i64 (.ofNat 41)) H fun t39 H =>
  onBool t39 (pFa 1 t7 H fun t40 H =>
  ldK .none H t40 fun t41 H =>
  pLss t41 (.int .i64 (.ofNat 0)) H fun t42 H =>
  guardA t42 false (pFa 2 t7 H fun t44 H =>
  S147_26 call t0 t1 t2 t7 t42 t44 H) (S147_26 call t0 t1 t2 t7 t42 U H)) (some (.tup [.nilsl, (.int .i64 (.negSucc 0))], H))))
noncomputable def S147 : Ff := ⟨fun call l H => argA4 (fun t0 t1 t2 t3 => S147_27 call t0 t1 t2 t3 H) l⟩
/- (*gantline/sched.Table).ways -/
noncomputable def S148_0 (call : CallFn) (t0 t1 t2 t7 t9 t53 t58 : AV) (H : AHeap) : R :=
  pPick t53 t58 (.bool false) H fun t59 H =>
  onBool t59 (some (t9, H)) (pFa 2 t7 H fun t63 H =>
  ldK .none H t63 fun t64 H =>
  pC call 217 [t1, t64] H fun t65 H =>
  pEql t65 (.int .i64 (.ofNat 0)) H fun t66 H =>
  onBool t66 (ldK (.some 4) H t7 fun t70 H =>
  pC call 218 [t0, t1, t2, t70] H fun t71 H =>
  some (t71, H)) (some (.nilsl, H)))
noncomputable def S148_1 (call : CallFn) (t0 t1 t2 t7 t9 t37 t46 : AV) (H : AHeap) : R :=
  pPick t37 t46 (.bool false) H fun t47 H =>
  onBool t47 (some (t9, H)) (pFa 1 t7 H fun t50 H =>
  ldK .none H t50 fun t51 H =>
  pO (aUn .not t51) H fun t52 H =>
  guardA t52 true (pFa 2 t7 H fun t55 H =>
  ldK .none H t55 fun t56 H =>
  pC call 216 [t1, t56] H fun t57 H =>
  pGtr t57 (.int .i64 (.ofNat 0)) H fun t58 H =>
  S148_0 call t0 t1 t2 t7 t9 t52 t58 H) (S148_0 call t0 t1 t2 t7 t9 t52 U H))
noncomputable def S148_2 (call : CallFn) (t0 t1 t2 t7 t9 t37 t41 t45 : AV) (H : AHeap) : R :=
  guardA t37 true (pLss t41 t45 H fun t46 H =>
  S148_1 call t0 t1 t2 t7 t9 t37 t46 H) (S148_1 call t0 t1 t2 t7 t9 t37 U H)
noncomputable def S148_3 (call : CallFn) (t0 t1 t2 t7 t9 t37 t41 t42 t43 t44 : AV) (H : AHeap) : R :=
  andR (andB (gdB t37 true (ckV (aLoad .none H t43) t44)) true) (
  guardA t37 true (pC call 217 [t42, t44] H fun t45 H =>
  S148_2 call t0 t1 t2 t7 t9 t37 t41 t45 H) (S148_2 call t0 t1 t2 t7 t9 t37 t41 U H))
noncomputable def S148_4 (call : CallFn) (t0 t1 t2 t7 t9 t37 t38 t40 t42 t43 t44 : AV) (H : AHeap) : R :=
  guardA t37 true (pC call 216 [t38, t40] H fun t41 H =>
  S148_3 call t0 t1 t2 t7 t9 t37 t41 t42 t43 t44 H) (S148_3 call t0 t1 t2 t7 t9 t37 U t42 t43 t44 H)
noncomputable def S148_5 (call : CallFn) (t0 t1 t2 t7 t9 t37 t38 t40 t42 t43 : AV) (H : AHeap) : R :=
  guardA t37 true (ldK .none H t43 fun t44 H =>
  S148_4 call t0 t1 t2 t7 t9 t37 t38 t40 t42 t43 t44 H) (S148_4 call t0 t1 t2 t7 t9 t37 t38 t40 t42 t43 U H)
noncomputable def S148_6 (call : CallFn) (t0 t1 t2 t7 t9 t37 t38 t40 t42 : AV) (H : AHeap) : R :=
  guardA t37 true (pFa 2 t7 H fun t43 H =>
  S148_5 call t0 t1 t2 t7 t9 t37 t38 t40 t42 t43 H) (S148_5 call t0 t1 t2 t7 t9 t37 t38 t40 t42 U H)
noncomputable def S148_7 (call : CallFn) (t0 t1 t2 t7 t9 t37 t38 t40 : AV) (H : AHeap) : R :=
  guardA t37 true (S148_6 call t0 t1 t2 t7 t9 t37 t38 t40 t1 H) (S148_6 call t0 t1 t2 t7 t9 t37 t38 t40 U H)
noncomputable def S148_8 (call : CallFn) (t0 t1 t2 t7 t9 t37 t38 t39 : AV) (H : AHeap) : R :=
  guardA t37 true (ldK .none H t39 fun t40 H =>
  S148_7 call t0 t1 t2 t7 t9 t37 t38 t40 H) (S148_7 call t0 t1 t2 t7 t9 t37 t38 U H)
noncomputable def S148_9 (call : CallFn) (t0 t1 t2 t7 t9 t37 t38 : AV) (H : AHeap) : R :=
  guardA t37 true (pFa 2 t7 H fun t39 H =>
  S148_8 call t0 t1 t2 t7 t9 t37 t38 t39 H) (S148_8 call t0 t1 t2 t7 t9 t37 t38 U H)
noncomputable def S148_10 (call : CallFn) (t0 t1 t2 t7 t9 t27 t31 : AV) (H : AHeap) : R :=
  pPick t27 (.bool true) t31 H fun t32 H =>
  onBool t32 (some (t9, H)) (pFa 1 t7 H fun t35 H =>
  ldK .none H t35 fun t36 H =>
  guardA t36 true (S148_9 call t0 t1 t2 t7 t9 t36 t1 H) (S148_9 call t0 t1 t2 t7 t9 t36 U H))
noncomputable def S148_11 (call : CallFn) (t0 t1 t2 t7 t9 t18 t21 : AV) (H : AHeap) : R :=
  pPick t18 t21 (.bool false) H fun t22 H =>
  onBool t22 (some (.nilsl, H)) (pFa 3 t7 H fun t24 H =>
  ldK .none H t24 fun t25 H =>
  pO (aUn .not t25) H fun t26 H =>
  guardA t26 false (pFa 2 t7 H fun t29 H =>
  ldK .none H t29 fun t30 H =>
  pC call 215 [t1, t30] H fun t31 H =>
  S148_10 call t0 t1 t2 t7 t9 t26 t31 H) (S148_10 call t0 t1 t2 t7 t9 t26 U H))
noncomputable def S148_12 (call : CallFn) (t0 t1 t2 t3 : AV) (H : AHeap) : R :=
  pBox t3 H fun t7 H =>
  pFa 0 t7 H fun t10 H =>
  ldK .none H t10 fun t11 H =>
  pO (someAgg (aFill [(.int .i64 (.ofNat 0)), (.int .i64 (.ofNat 0)), (.int .i64 (.ofNat 0))] [(0, 1, t11), (1, 1, (.int .i64 (.ofNat 0))), (2, 1, (.int .i64 (.negSucc 0)))])) H fun t12 H =>
  pN (aBsl 3 1 [(.int .i64 (.ofNat 0)), (.int .i64 (.ofNat 0)), (.int .i64 (.ofNat 0))] [(0, 3, t12)]) H fun t13 H =>
  pFa 3 t7 H fun t15 H =>
  ldK .none H t15 fun t16 H =>
  pO (aUn .not t16) H fun t17 H =>
  guardA t17 true (pFa 0 t7 H fun t19 H =>
  ldK .none H t19 fun t20 H =>
  pNeq t20 (.int .i64 (.negSucc 0)) H fun t21 H =>
  S148_11 call t0 t1 t2 t7 t13 t17 t21 H) (S148_11 call t0 t1 t2 t7 t13 t17 U H)
noncomputable def S148 : Ff := ⟨fun call l H => argA4 (fun t0 t1 t2 t3 => S148_12 call t0 t1 t2 t3 H) l⟩
/- slices.Clone[[]int,int] -/
noncomputable def S149_0 (_ : CallFn) (t0 : AV) (H : AHeap) : R :=
  pO (aEq false .sl t0 .nilsl) H fun t4 H =>
  onBool t4 (some (.nilsl, H)) (pN (aBsl 1 0 [(.int .i64 (.ofNat 0))] []) H fun t5 H =>
  pW (aApp 1 8 H t5 t0) fun t7 H =>
  some (t7, H))
noncomputable def S149 : Ff := ⟨fun call l H => argA1 (fun t0 => S149_0 call t0 H) l⟩
/- (*gantline/cycle.Cycle).Black -/
noncomputable def S150_0 (_ : CallFn) (t0 t1 : AV) (H : AHeap) : R :=
  pO (aNil t0) H fun t6 H =>
  pFa 5 t6 H fun t7 H =>
  ldK .none H t7 fun t8 H =>
  pO (aLook .int (.bool false) false H t8 t1) H fun t10 H =>
  some (t10, H)
noncomputable def S150 : Ff := ⟨fun call l H => argA2 (fun t0 t1 => S150_0 call t0 t1 H) l⟩
/- slices.Min[[]int,int] -/
noncomputable def S151_0 (_ : CallFn) (n : Nat) : AV → AV → AV → AHeap → R :=
  Nat.rec (motive := fun _ => AV → AV → AV → AHeap → R) (fun _ _ _ _ => none) (fun _ q0 t0 t3 t4 H => pO (aLen .sl H t0) H fun t14 H =>
  pLss t4 t14 H fun t15 H =>
  onBool t15 (pIa 1 t0 t4 H fun t21 H =>
  ldK .none H t21 fun t22 H =>
  pO (aMinMax false t3 t22) H fun t23 H =>
  pAdd t4 (.int .i64 (.ofNat 1)) H fun t17 H =>
  q0 t0 t23 t17 H) (some (t3, H))) n
noncomputable def S151_1 (call : CallFn) (t0 : AV) (H : AHeap) : R :=
  pIa 1 t0 (.int .i64 (.ofNat 0)) H fun t10 H =>
  ldK .none H t10 fun t11 H =>
  S151_0 call 1000000 t0 t11 (.int .i64 (.ofNat 1)) H
noncomputable def S151_2 (call : CallFn) (t0 : AV) (H : AHeap) : R :=
  pO (aLen .sl H t0) H fun t6 H =>
  pLss t6 (.int .i64 (.ofNat 1)) H fun t7 H =>
  onBool t7 (none) (S151_1 call t0 H)
noncomputable def S151 : Ff := ⟨fun call l H => argA1 (fun t0 => S151_2 call t0 H) l⟩
/- (*gantline/cycle.Cycle).shades -/
noncomputable def S152_0 (_ : CallFn) (t8 t13 : AV) (H : AHeap) : R :=
  pPick t8 (.bool true) t13 H fun t14 H =>
  some (t14, H)
noncomputable def S152_1 (call : CallFn) (t0 : AV) (H : AHeap) : R :=
  pO (aNil t0) H fun t4 H =>
  pFa 4 t4 H fun t5 H =>
  ldK .none H t5 fun t6 H =>
  pEql t6 (.int .i64 (.ofNat 1)) H fun t7 H =>
  guardA t7 false (pO (aNil t0) H fun t10 H =>
  pFa 4 t10 H fun t11 H =>
  ldK .none H t11 fun t12 H =>
  pEql t12 (.int .i64 (.ofNat 2)) H fun t13 H =>
  S152_0 call t7 t13 H) (S152_0 call t7 U H)
noncomputable def S152 : Ff := ⟨fun call l H => argA1 (fun t0 => S152_1 call t0 H) l⟩
/- (*gantline/grey.Queue).Next -/
noncomputable def S153_0 (_ : CallFn) (t0 : AV) (H : AHeap) : R :=
  pO (aNil t0) H fun t6 H =>
  pFa 0 t6 H fun t7 H =>
  ldK .none H t7 fun t8 H =>
  pO (aLen .sl H t8) H fun t9 H =>
  pEql t9 (.int .i64 (.ofNat 0)) H fun t10 H =>
  onBool t10 (some (.tup [(.int .i64 (.ofNat 0)), (.bool false)], H)) (pO (aNil t0) H fun t12 H =>
  pFa 0 t12 H fun t13 H =>
  ldK .none H t13 fun t14 H =>
  pIa 1 t14 (.int .i64 (.ofNat 0)) H fun t15 H =>
  ldK .none H t15 fun t16 H =>
  pO (aNil t0) H fun t19 H =>
  pFa 0 t19 H fun t20 H =>
  ldK .none H t20 fun t21 H =>
  pO (aSlice 1 H t21 (.some (.int .i64 (.ofNat 1))) .none .none) H fun t22 H =>
  pO (aNil t0) H fun t23 H =>
  pFa 0 t23 H fun t24 H =>
  stK 1 H t24 t22 fun _ H =>
  some (.tup [t16, (.bool true)], H))
noncomputable def S153 : Ff := ⟨fun call l H => argA1 (fun t0 => S153_0 call t0 H) l⟩
/- (*gantline/mark.Marker).Fields -/
noncomputable def S154_1 (_ : CallFn) (q0 : AV → AV → AV → AV → AV → AV → AV → AHeap → R) (t0 t1 t7 t8 t9 t58 t59 : AV) (H : AHeap) : R :=
  pAdd t59 (.int .i64 (.ofNat 1)) H fun t86 H =>
  q0 t0 t1 t7 t8 t9 t58 t86 H
noncomputable def S154_2 (call : CallFn) (q0 : AV → AV → AV → AV → AV → AV → AV → AHeap → R) (t0 t1 t7 t8 t9 t11 t58 t59 t78 t80 : AV) (H : AHeap) : R :=
  pPick t78 t80 (.bool false) H fun t81 H =>
  onBool t81 (pN (aBsl 1 1 [(.int .i64 (.ofNat 0))] [(0, 1, t11)]) H fun t84 H =>
  pW (aApp 1 8 H t9 t84) fun t85 H =>
  S154_1 call q0 t0 t1 t7 t8 t85 t58 t59 H) (S154_1 call q0 t0 t1 t7 t8 t9 t58 t59 H)
noncomputable def S154_0 (call : CallFn) (n : Nat) : AV → AV → AV → AV → AV → AV → AV → AHeap → R :=
  Nat.rec (motive := fun _ => AV → AV → AV → AV → AV → AV → AV → AHeap → R) (fun _ _ _ _ _ _ _ _ => none) (fun _ q0 t0 t1 t7 t8 t9 t58 t59 H => pLss t59 t58 H fun t60 H =>
  onBool t60 (pO (aNil t0) H fun t64 H =>
  pFa 0 t64 H fun t65 H =>
  ldK .none H t65 fun t66 H =>
  pAdd t59 (.int .i64 (.ofNat 1)) H fun t69 H =>
  pC call 219 [t66, t1, t69] H fun t70 H =>
  pExt t70 0 H fun t71 H =>
  pExt t70 1 H fun _ H =>
  ldK (.some 3) H t8 fun t73 H =>
  pFa 0 t7 H fun t75 H =>
  ldK .none H t75 fun t76 H =>
  pC call 223 [t73, t59, t76] H fun t77 H =>
  guardA t77 true (pNeq t71 (.int .i64 (.ofNat 0)) H fun t80 H =>
  S154_2 call q0 t0 t1 t7 t8 t9 t71 t58 t59 t77 t80 H) (S154_2 call q0 t0 t1 t7 t8 t9 t71 t58 t59 t77 U H)) (some (t9, H))) n
noncomputable def S154_3 (call : CallFn) (t0 t1 t7 t31 t42 : AV) (H : AHeap) : R :=
  pPick t31 (.bool true) t42 H fun t43 H =>
  onBool t43 (some (.nilsl, H)) (pO (aNil t0) H fun t46 H =>
  pFa 1 t46 H fun t47 H =>
  ldK .none H t47 fun t48 H =>
  pFa 2 t7 H fun t49 H =>
  ldK .none H t49 fun t50 H =>
  pNew [(.int .i64 (.ofNat 0)), (.int .i64 (.ofNat 0)), (.int .u64 (.ofNat 0))] H fun t8 H =>
  pC call 222 [t48, t50] H fun t51 H =>
  pExt t51 0 H fun t52 H =>
  pExt t51 1 H fun t53 H =>
  stK 3 H t8 t52 fun _ H =>
  pNeq t53 (.int .i64 (.ofNat 0)) H fun t55 H =>
  onBool t55 (some (.nilsl, H)) (pFa 0 t7 H fun t56 H =>
  ldK .none H t56 fun t57 H =>
  pSub t57 (.int .i64 (.ofNat 1)) H fun t58 H =>
  S154_0 call 1000000 t0 t1 t7 t8 .nilsl t58 (.int .i64 (.ofNat 0)) H))
noncomputable def S154_4 (call : CallFn) (t0 t1 t7 t31 t32 t33 t41 : AV) (H : AHeap) : R :=
  andR (andB (gdB t31 false (ckV (aLoad .none H t32) t33)) true) (
  guardA t31 false (pGtr t33 t41 H fun t42 H =>
  S154_3 call t0 t1 t7 t31 t42 H) (S154_3 call t0 t1 t7 t31 U H))
noncomputable def S154_5 (call : CallFn) (t0 t1 t7 t31 t32 t33 t40 : AV) (H : AHeap) : R :=
  andR (andB (gdB t31 false (ckV (aLoad .none H t32) t33)) true) (
  guardA t31 false (pC call 160 [t40] H fun t41 H =>
  S154_4 call t0 t1 t7 t31 t32 t33 t41 H) (S154_4 call t0 t1 t7 t31 t32 t33 U H))
noncomputable def S154_6 (call : CallFn) (t0 t1 t7 t31 t32 t33 t36 t37 t39 : AV) (H : AHeap) : R :=
  andR (andB (gdB t31 false (ckV (aLoad .none H t32) t33)) (andB (gdB t31 false (ckV (aLoad .none H t36) t37)) true)) (
  guardA t31 false (pC call 156 [t37, t39] H fun t40 H =>
  S154_5 call t0 t1 t7 t31 t32 t33 t40 H) (S154_5 call t0 t1 t7 t31 t32 t33 U H))
noncomputable def S154_7 (call : CallFn) (t0 t1 t7 t31 t32 t33 t36 t37 t38 : AV) (H : AHeap) : R :=
  guardA t31 false (pC call 221 [t38] H fun t39 H =>
  S154_6 call t0 t1 t7 t31 t32 t33 t36 t37 t39 H) (S154_6 call t0 t1 t7 t31 t32 t33 t36 t37 U H)
noncomputable def S154_8 (call : CallFn) (t0 t1 t7 t31 t32 t33 t36 t37 : AV) (H : AHeap) : R :=
  guardA t31 false (S154_7 call t0 t1 t7 t31 t32 t33 t36 t37 t1 H) (S154_7 call t0 t1 t7 t31 t32 t33 t36 t37 U H)
noncomputable def S154_9 (call : CallFn) (t0 t1 t7 t31 t32 t33 t36 : AV) (H : AHeap) : R :=
  guardA t31 false (ldK .none H t36 fun t37 H =>
  S154_8 call t0 t1 t7 t31 t32 t33 t36 t37 H) (S154_8 call t0 t1 t7 t31 t32 t33 t36 U H)
noncomputable def S154_10 (call : CallFn) (t0 t1 t7 t31 t32 t33 t35 : AV) (H : AHeap) : R :=
  guardA t31 false (pFa 0 t35 H fun t36 H =>
  S154_9 call t0 t1 t7 t31 t32 t33 t36 H) (S154_9 call t0 t1 t7 t31 t32 t33 U H)
noncomputable def S154_11 (call : CallFn) (t0 t1 t7 t31 t32 t33 t34 : AV) (H : AHeap) : R :=
  guardA t31 false (pO (aNil t34) H fun t35 H =>
  S154_10 call t0 t1 t7 t31 t32 t33 t35 H) (S154_10 call t0 t1 t7 t31 t32 t33 U H)
noncomputable def S154_12 (call : CallFn) (t0 t1 t7 t31 t32 t33 : AV) (H : AHeap) : R :=
  guardA t31 false (S154_11 call t0 t1 t7 t31 t32 t33 t0 H) (S154_11 call t0 t1 t7 t31 t32 t33 U H)
noncomputable def S154_13 (call : CallFn) (t0 t1 t7 t31 t32 : AV) (H : AHeap) : R :=
  guardA t31 false (ldK .none H t32 fun t33 H =>
  S154_12 call t0 t1 t7 t31 t32 t33 H) (S154_12 call t0 t1 t7 t31 t32 U H)
noncomputable def S154_14 (call : CallFn) (t0 t1 : AV) (H : AHeap) : R :=
  pO (aNil t0) H fun t15 H =>
  pFa 0 t15 H fun t16 H =>
  ldK .none H t16 fun t17 H =>
  pC call 219 [t17, t1, (.int .i64 (.ofNat 0))] H fun t19 H =>
  pExt t19 0 H fun t20 H =>
  pExt t19 1 H fun t21 H =>
  pNeq t21 (.int .i64 (.ofNat 0)) H fun t23 H =>
  onBool t23 (some (.nilsl, H)) (pC call 220 [t20] H fun t26 H =>
  pExt t26 0 H fun t27 H =>
  pExt t26 1 H fun t28 H =>
  pNew [(.int .i64 (.ofNat 0)), (.int .i64 (.ofNat 0)), (.int .i64 (.ofNat 0))] H fun t7 H =>
  stK 3 H t7 t27 fun _ H =>
  pNeq t28 (.int .i64 (.ofNat 0)) H fun t30 H =>
  guardA t30 false (pFa 0 t7 H fun t32 H =>
  S154_13 call t0 t1 t7 t30 t32 H) (S154_13 call t0 t1 t7 t30 U H))
noncomputable def S154 : Ff := ⟨fun call l H => argA2 (fun t0 t1 => S154_14 call t0 t1 H) l⟩
/- (*gantline/mark.Marker).Shade -/
noncomputable def S155_0 (call : CallFn) (t0 t1 : AV) (H : AHeap) : R :=
  pO (aNil t0) H fun t6 H =>
  pFa 0 t6 H fun t7 H =>
  ldK .none H t7 fun t8 H =>
  pC call 224 [t8, t1] H fun t10 H =>
  pO (aUn .not t10) H fun t11 H =>
  onBool t11 (some ((.bool false), H)) (pO (aNil t0) H fun t13 H =>
  pFa 2 t13 H fun t14 H =>
  ldK .none H t14 fun t15 H =>
  pC call 225 [t15, t1] H fun _ H =>
  some ((.bool true), H))
noncomputable def S155 : Ff := ⟨fun call l H => argA2 (fun t0 t1 => S155_0 call t0 t1 H) l⟩
/- (*gantline/arena.Arena).Class -/
noncomputable def S156_0 (call : CallFn) (t0 t1 : AV) (H : AHeap) : R :=
  pC call 226 [t0, t1] H fun t7 H =>
  pO (aUn .not t7) H fun t8 H =>
  onBool t8 (some ((.int .i64 (.negSucc 0)), H)) (pO (aNil t0) H fun t10 H =>
  pFa 1 t10 H fun t11 H =>
  ldK .none H t11 fun t12 H =>
  pIa 3 t12 t1 H fun t14 H =>
  pFa 0 t14 H fun t15 H =>
  ldK .none H t15 fun t16 H =>
  some (t16, H))
noncomputable def S156 : Ff := ⟨fun call l H => argA2 (fun t0 t1 => S156_0 call t0 t1 H) l⟩
/- (*gantline/alloc.Alloc).sweep -/
noncomputable def S157_0 (call : CallFn) (t0 t1 : AV) (H : AHeap) : R :=
  pO (aNil t0) H fun t5 H =>
  pFa 0 t5 H fun t6 H =>
  ldK .none H t6 fun t7 H =>
  pC call 227 [t7, t1] H fun _ H =>
  pO (aNil t0) H fun t11 H =>
  pFa 1 t11 H fun t12 H =>
  ldK .none H t12 fun t13 H =>
  pIa 1 t13 t1 H fun t15 H =>
  stK 1 H t15 (.bool false) fun _ H =>
  some (.tup [], H)
noncomputable def S157 : Ff := ⟨fun call l H => argA2 (fun t0 t1 => S157_0 call t0 t1 H) l⟩
/- gantline/bits.Ones -/
noncomputable def S158_0 (call : CallFn) (t0 : AV) (H : AHeap) : R :=
  pC call 228 [t0] H fun t4 H =>
  some (t4, H)
noncomputable def S158 : Ff := ⟨fun call l H => argA1 (fun t0 => S158_0 call t0 H) l⟩
/- (*gantline/arena.Arena).Taken -/
noncomputable def S159_0 (call : CallFn) (t0 t1 : AV) (H : AHeap) : R :=
  pC call 156 [t0, t1] H fun t7 H =>
  pEql t7 (.int .i64 (.negSucc 0)) H fun t8 H =>
  onBool t8 (some ((.int .u64 (.ofNat 0)), H)) (pO (aNil t0) H fun t10 H =>
  pFa 1 t10 H fun t11 H =>
  ldK .none H t11 fun t12 H =>
  pIa 3 t12 t1 H fun t14 H =>
  pFa 1 t14 H fun t15 H =>
  ldK .none H t15 fun t16 H =>
  some (t16, H))
noncomputable def S159 : Ff := ⟨fun call l H => argA2 (fun t0 t1 => S159_0 call t0 t1 H) l⟩
/- gantline/geom.Words -/
noncomputable def S160_0 (_ : CallFn) (t0 t5 t7 : AV) (H : AHeap) : R :=
  pPick t5 (.bool true) t7 H fun t8 H =>
  onBool t8 (some ((.int .i64 (.ofNat 0)), H)) (pConv .u64 t0 H fun t10 H =>
  pO (aBin .shl (.int .i64 (.ofNat 2)) t10) H fun t11 H =>
  some (t11, H))
noncomputable def S160_1 (call : CallFn) (t0 : AV) (H : AHeap) : R :=
  pLss t0 (.int .i64 (.ofNat 0)) H fun t4 H =>
  guardA t4 false (pGeq t0 (.int .i64 (.ofNat 6)) H fun t7 H =>
  S160_0 call t0 t4 t7 H) (S160_0 call t0 t4 U H)
noncomputable def S160 : Ff := ⟨fun call l H => argA1 (fun t0 => S160_1 call t0 H) l⟩
/- (*gantline/vm.doing).give -/
noncomputable def S161_0 (call : CallFn) (t0 t1 : AV) (H : AHeap) : R :=
  pO (aNil t0) H fun t5 H =>
  pFa 2 t5 H fun t6 H =>
  ldK .none H t6 fun t7 H =>
  pO (aNil t0) H fun t9 H =>
  pFa 3 t9 H fun t10 H =>
  pFa 1 t10 H fun t11 H =>
  ldK .none H t11 fun t12 H =>
  pC call 229 [t7, t12, t1] H fun _ H =>
  pC call 132 [t0] H fun _ H =>
  some (.tup [], H)
noncomputable def S161 : Ff := ⟨fun call l H => argA2 (fun t0 t1 => S161_0 call t0 t1 H) l⟩
/- gantline/vm.one -/
noncomputable def S162_0 (_ : CallFn) (t0 : AV) (H : AHeap) : R :=
  onBool t0 (some ((.int .i64 (.ofNat 1)), H)) (some ((.int .i64 (.ofNat 0)), H))
noncomputable def S162 : Ff := ⟨fun call l H => argA1 (fun t0 => S162_0 call t0 H) l⟩
/- (*gantline/frame.Stack).Jump -/
noncomputable def S163_0 (call : CallFn) (t0 t1 : AV) (H : AHeap) : R :=
  pC call 125 [t0] H fun t6 H =>
  pO (aEq true .ptr t6 .nilp) H fun t8 H =>
  onBool t8 (pO (aNil t6) H fun t11 H =>
  pFa 1 t11 H fun t12 H =>
  stK 1 H t12 t1 fun _ H =>
  some (.tup [], H)) (some (.tup [], H))
noncomputable def S163 : Ff := ⟨fun call l H => argA2 (fun t0 t1 => S163_0 call t0 t1 H) l⟩
/- (*gantline/vm.doing).run -/
noncomputable def S166_0 (call : CallFn) (n : Nat) : AV → AV → AV → AV → AV → AHeap → R :=
  Nat.rec (motive := fun _ => AV → AV → AV → AV → AV → AHeap → R) (fun _ _ _ _ _ _ => none) (fun _ q0 t0 t1 t7 t9 t10 H => pLss t10 t9 H fun t11 H =>
  onBool t11 (pO (aNil t0) H fun t15 H =>
  pFa 2 t15 H fun t16 H =>
  ldK .none H t16 fun t17 H =>
  pAdd t1 t10 H fun t20 H =>
  pC call 131 [t17, t20] H fun t21 H =>
  pN (aBsl 1 1 [(.int .i64 (.ofNat 0))] [(0, 1, t21)]) H fun t22 H =>
  pW (aApp 1 8 H t7 t22) fun t23 H =>
  pAdd t10 (.int .i64 (.ofNat 1)) H fun t24 H =>
  q0 t0 t1 t23 t9 t24 H) (some (t7, H))) n
noncomputable def S166 : Ff := ⟨fun call l H => argA3 (fun t0 t1 t2 => S166_0 call 1000000 t0 t1 .nilsl t2 (.int .i64 (.ofNat 0)) H) l⟩
/- (*gantline/vm.doing).back -/
noncomputable def S169_0 (call : CallFn) (t0 t3 : AV) (H : AHeap) : R :=
  pO (aNil t0) H fun t102 H =>
  pFa 2 t102 H fun t103 H =>
  ldK .none H t103 fun t104 H =>
  pFa 1 t3 H fun t105 H =>
  ldK .none H t105 fun t106 H =>
  pAdd t106 (.int .i64 (.ofNat 1)) H fun t107 H =>
  pC call 163 [t104, t107] H fun _ H =>
  some (.tup [], H)
noncomputable def S169_1 (call : CallFn) (t0 t2 t3 t5 t88 t91 : AV) (H : AHeap) : R :=
  pPick t88 t91 (.bool false) H fun t92 H =>
  onBool t92 (pO (aNil t0) H fun t94 H =>
  pFa 2 t94 H fun t95 H =>
  ldK .none H t95 fun t96 H =>
  pFa 1 t5 H fun t97 H =>
  ldK .none H t97 fun t98 H =>
  pC call 229 [t96, t98, t2] H fun _ H =>
  S169_0 call t0 t3 H) (S169_0 call t0 t3 H)
noncomputable def S169_2 (call : CallFn) (t0 : AV) (H : AHeap) : R :=
  pO (aNil t0) H fun t8 H =>
  pFa 2 t8 H fun t9 H =>
  ldK .none H t9 fun t10 H =>
  pO (aNil t0) H fun t12 H =>
  pFa 3 t12 H fun t13 H =>
  pFa 1 t13 H fun t14 H =>
  ldK .none H t14 fun t15 H =>
  pC call 131 [t10, t15] H fun t16 H =>
  pO (aNil t0) H fun t18 H =>
  pFa 2 t18 H fun t19 H =>
  ldK .none H t19 fun t20 H =>
  pC call 240 [t20] H fun t21 H =>
  pO (aUn .not t21) H fun t22 H =>
  onBool t22 (pO (aNil t0) H fun t24 H =>
  pFa 0 t24 H fun t25 H =>
  ldK .none H t25 fun t26 H =>
  pO (aNil t26) H fun t27 H =>
  pFa 7 t27 H fun t28 H =>
  ldK .none H t28 fun t29 H =>
  pO (aNil t0) H fun t31 H =>
  pFa 1 t31 H fun t32 H =>
  ldK .none H t32 fun t33 H =>
  pC call 241 [t29, t33] H fun _ H =>
  pO (aNil t0) H fun t36 H =>
  pFa 0 t36 H fun t37 H =>
  ldK .none H t37 fun t38 H =>
  pO (aNil t38) H fun t39 H =>
  pFa 6 t39 H fun t40 H =>
  ldK .none H t40 fun t41 H =>
  pO (aNil t0) H fun t44 H =>
  pFa 1 t44 H fun t45 H =>
  ldK .none H t45 fun t46 H =>
  pC call 46 [t41] H fun t42 H =>
  andR (andB (ckV (aLoad .none H t45) t46) true) (
  pC call 242 [t42, t46] H fun _ H =>
  pO (aNil t0) H fun t49 H =>
  pFa 1 t49 H fun t50 H =>
  ldK .none H t50 fun t51 H =>
  pEql t51 (.int .i64 (.ofNat 1)) H fun t52 H =>
  onBool t52 (pO (aNil t0) H fun t54 H =>
  pFa 0 t54 H fun t55 H =>
  ldK .none H t55 fun t56 H =>
  pO (aNil t56) H fun t57 H =>
  pFa 11 t57 H fun t58 H =>
  stK 1 H t58 (.int .i64 (.ofNat 1)) fun _ H =>
  some (.tup [], H)) (some (.tup [], H)))) (pO (aNil t0) H fun t61 H =>
  pFa 2 t61 H fun t62 H =>
  ldK .none H t62 fun t63 H =>
  pC call 89 [t63] H fun t64 H =>
  pExt t64 0 H fun t65 H =>
  pExt t64 1 H fun _ H =>
  pNew [(.int .i64 (.ofNat 0)), (.int .i64 (.ofNat 0)), .nilsl] H fun t3 H =>
  stK 3 H t3 t65 fun _ H =>
  pO (aNil t0) H fun t69 H =>
  pFa 2 t69 H fun t70 H =>
  ldK .none H t70 fun t71 H =>
  pO (aNil t0) H fun t73 H =>
  pFa 0 t73 H fun t74 H =>
  ldK .none H t74 fun t75 H =>
  pO (aNil t75) H fun t76 H =>
  pFa 0 t76 H fun t77 H =>
  ldK (.some 6) H t77 fun t78 H =>
  pNew [(.int .i64 (.ofNat 0)), (.int .i64 (.ofNat 0)), (.int .i64 (.ofNat 0)), (.int .i64 (.ofNat 0)), (.int .i64 (.ofNat 0))] H fun t5 H =>
  pC call 88 [t71, t78] H fun t79 H =>
  pExt t79 0 H fun t80 H =>
  pExt t79 1 H fun _ H =>
  stK 5 H t5 t80 fun _ H =>
  pO (aNil t0) H fun t83 H =>
  pFa 3 t83 H fun t84 H =>
  pFa 1 t84 H fun t85 H =>
  ldK .none H t85 fun t86 H =>
  pNeq t86 (.int .i64 (.negSucc 0)) H fun t87 H =>
  guardA t87 true (pFa 1 t5 H fun t89 H =>
  ldK .none H t89 fun t90 H =>
  pNeq t90 (.int .i64 (.negSucc 0)) H fun t91 H =>
  S169_1 call t0 t16 t3 t5 t87 t91 H) (S169_1 call t0 t16 t3 t5 t87 U H))
noncomputable def S169 : Ff := ⟨fun call l H => argA1 (fun t0 => S169_2 call t0 H) l⟩
/- (*gantline/vm.doing).begin -/
noncomputable def S170_0 (call : CallFn) (t0 t6 : AV) (H : AHeap) : R :=
  pO (aNil t0) H fun t60 H =>
  pFa 0 t60 H fun t61 H =>
  ldK .none H t61 fun t62 H =>
  pO (aNil t62) H fun t63 H =>
  pFa 6 t63 H fun t64 H =>
  ldK .none H t64 fun t65 H =>
  pC call 46 [t65] H fun t66 H =>
  pC call 244 [t66, t6] H fun _ H =>
  pC call 132 [t0] H fun _ H =>
  some (.tup [], H)
noncomputable def S170_2 (_ : CallFn) (q0 : AV → AV → AV → AV → AV → AV → AHeap → R) (t0 t1 t6 t30 t31 t32 : AV) (H : AHeap) : R :=
  pAdd t32 (.int .i64 (.ofNat 1)) H fun t58 H =>
  q0 t0 t1 t6 t30 t31 t58 H
noncomputable def S170_1 (call : CallFn) (n : Nat) : AV → AV → AV → AV → AV → AV → AHeap → R :=
  Nat.rec (motive := fun _ => AV → AV → AV → AV → AV → AV → AHeap → R) (fun _ _ _ _ _ _ _ => none) (fun _ q0 t0 t1 t6 t30 t31 t32 H => pLss t32 t31 H fun t33 H =>
  onBool t33 (pIa 1 t30 t32 H fun t35 H =>
  ldK .none H t35 fun t36 H =>
  pO (aNil t0) H fun t38 H =>
  pFa 0 t38 H fun t39 H =>
  ldK .none H t39 fun t40 H =>
  pO (aNil t40) H fun t41 H =>
  pFa 0 t41 H fun t42 H =>
  pFa 4 t42 H fun t43 H =>
  ldK .none H t43 fun t44 H =>
  pIa 7 t44 t1 H fun t46 H =>
  pFa 4 t46 H fun t47 H =>
  ldK .none H t47 fun t48 H =>
  pIa 1 t48 t32 H fun t50 H =>
  ldK .none H t50 fun t51 H =>
  onBool t51 (pO (aNil t0) H fun t53 H =>
  pFa 0 t53 H fun t54 H =>
  ldK .none H t54 fun t55 H =>
  pC call 243 [t55, t36] H fun _ H =>
  S170_2 call q0 t0 t1 t6 t30 t31 t32 H) (S170_2 call q0 t0 t1 t6 t30 t31 t32 H)) (S170_0 call t0 t6 H)) n
noncomputable def S170_3 (call : CallFn) (t0 t1 t2 : AV) (H : AHeap) : R :=
  pO (aNil t0) H fun t12 H =>
  pFa 0 t12 H fun t13 H =>
  ldK .none H t13 fun t14 H =>
  pO (aNil t14) H fun t15 H =>
  pFa 7 t15 H fun t16 H =>
  ldK .none H t16 fun t17 H =>
  pC call 37 [t17, t1, t2] H fun t20 H =>
  pExt t20 0 H fun t21 H =>
  pExt t20 1 H fun t22 H =>
  pNeq t22 (.int .i64 (.ofNat 0)) H fun t24 H =>
  onBool t24 (pO (aNil t0) H fun t26 H =>
  pFa 0 t26 H fun t27 H =>
  ldK .none H t27 fun t28 H =>
  pC call 133 [t28, (.int .i64 (.ofNat 6))] H fun _ H =>
  some (.tup [], H)) (pO (aLen .sl H t2) H fun t31 H =>
  S170_1 call 1000000 t0 t1 t21 t2 t31 (.int .i64 (.ofNat 0)) H)
noncomputable def S170 : Ff := ⟨fun call l H => argA3 (fun t0 t1 t2 => S170_3 call t0 t1 t2 H) l⟩
/- (*gantline/heap.Heap).Make -/
noncomputable def S172_0 (call : CallFn) (t0 t2 t10 t11 t12 : AV) (H : AHeap) : R :=
  pNeq t12 (.int .i64 (.ofNat 0)) H fun t76 H =>
  onBool t76 (some (.tup [(.int .i64 (.ofNat 0)), t12], H)) (pO (aNil t0) H fun t80 H =>
  pFa 0 t80 H fun t81 H =>
  ldK .none H t81 fun t82 H =>
  ldK (.some 3) H t10 fun t84 H =>
  pC call 73 [t82] H fun t83 H =>
  andR (andB (ckV (aLoad (.some 3) H t10) t84) true) (
  pC call 74 [t83, t84] H fun t85 H =>
  pExt t85 0 H fun t86 H =>
  pExt t85 1 H fun _ H =>
  pFa 0 t10 H fun t90 H =>
  ldK .none H t90 fun t91 H =>
  pO (someAgg (aFill [(.int .i64 (.ofNat 0)), (.int .i64 (.ofNat 0)), (.int .i64 (.ofNat 0))] [(0, 1, t2), (1, 1, t91), (2, 1, t86)])) H fun t93 H =>
  pC call 247 [t93] H fun t94 H =>
  pExt t94 0 H fun t95 H =>
  pExt t94 1 H fun t96 H =>
  pNeq t96 (.int .i64 (.ofNat 0)) H fun t98 H =>
  onBool t98 (some (.tup [(.int .i64 (.ofNat 0)), t96], H)) (pO (aNil t0) H fun t101 H =>
  pFa 0 t101 H fun t102 H =>
  ldK .none H t102 fun t103 H =>
  pC call 239 [t103] H fun t104 H =>
  pC call 248 [t104, t11, (.int .i64 (.ofNat 0)), t95] H fun _ H =>
  some (.tup [t11, (.int .i64 (.ofNat 0))], H))))
noncomputable def S172_1 (call : CallFn) (t0 t1 t2 t3 t31 t33 : AV) (H : AHeap) : R :=
  pPick t31 (.bool true) t33 H fun t34 H =>
  onBool t34 (some (.tup [(.int .i64 (.ofNat 0)), (.int .i64 (.ofNat 1))], H)) (pO (aNil t0) H fun t36 H =>
  pFa 1 t36 H fun t37 H =>
  ldK .none H t37 fun t38 H =>
  pIa 3 t38 t1 H fun t40 H =>
  ldK (.some 3) H t40 fun t41 H =>
  pNew [(.int .i64 (.ofNat 0)), (.int .i64 (.ofNat 0)), (.int .u64 (.ofNat 0))] H fun t10 H =>
  stK 3 H t10 t41 fun _ H =>
  pO (aNil t0) H fun t44 H =>
  pFa 0 t44 H fun t45 H =>
  ldK .none H t45 fun t46 H =>
  pC call 245 [t46, t2] H fun t48 H =>
  pExt t48 0 H fun t49 H =>
  pExt t48 1 H fun t50 H =>
  pEql t50 (.int .i64 (.ofNat 5)) H fun t52 H =>
  onBool t52 (pO (aNil t0) H fun t54 H =>
  pFa 0 t54 H fun t55 H =>
  ldK .none H t55 fun t56 H =>
  pC call 246 [t56, t3] H fun _ H =>
  pO (aNil t0) H fun t60 H =>
  pFa 2 t60 H fun t61 H =>
  ldK .none H t61 fun t62 H =>
  pAdd t62 (.int .i64 (.ofNat 1)) H fun t63 H =>
  pO (aNil t0) H fun t64 H =>
  pFa 2 t64 H fun t65 H =>
  stK 1 H t65 t63 fun _ H =>
  pO (aNil t0) H fun t68 H =>
  pFa 0 t68 H fun t69 H =>
  ldK .none H t69 fun t70 H =>
  pC call 245 [t70, t2] H fun t72 H =>
  pExt t72 0 H fun t73 H =>
  pExt t72 1 H fun t74 H =>
  S172_0 call t0 t2 t10 t73 t74 H) (S172_0 call t0 t2 t10 t49 t50 H))
noncomputable def S172_2 (call : CallFn) (t0 t1 t2 t3 t27 t29 : AV) (H : AHeap) : R :=
  pPick t27 (.bool true) t29 H fun t30 H =>
  guardA t30 false (pGtr t2 (.int .i64 (.ofNat 64)) H fun t33 H =>
  S172_1 call t0 t1 t2 t3 t30 t33 H) (S172_1 call t0 t1 t2 t3 t30 U H)
noncomputable def S172_3 (call : CallFn) (t0 t1 t2 t3 t18 t25 : AV) (H : AHeap) : R :=
  pPick t18 (.bool true) t25 H fun t26 H =>
  guardA t26 false (pLss t2 (.int .i64 (.ofNat 1)) H fun t29 H =>
  S172_2 call t0 t1 t2 t3 t26 t29 H) (S172_2 call t0 t1 t2 t3 t26 U H)
noncomputable def S172_4 (call : CallFn) (t0 t1 t2 t3 : AV) (H : AHeap) : R :=
  pLss t1 (.int .i64 (.ofNat 0)) H fun t17 H =>
  guardA t17 false (pO (aNil t0) H fun t21 H =>
  pFa 1 t21 H fun t22 H =>
  ldK .none H t22 fun t23 H =>
  pO (aLen .sl H t23) H fun t24 H =>
  pGeq t1 t24 H fun t25 H =>
  S172_3 call t0 t1 t2 t3 t17 t25 H) (S172_3 call t0 t1 t2 t3 t17 U H)
noncomputable def S172 : Ff := ⟨fun call l H => argA4 (fun t0 t1 t2 t3 => S172_4 call t0 t1 t2 t3 H) l⟩
/- gantline/chans.Make -/
noncomputable def S174_0 (call : CallFn) (t0 t1 t2 t3 t15 t17 : AV) (H : AHeap) : R :=
  pPick t15 (.bool true) t17 H fun t18 H =>
  onBool t18 (some (.tup [(.int .i64 (.ofNat 0)), (.int .i64 (.ofNat 5)), (.int .i64 (.ofNat 0))], H)) (pAdd t2 (.int .i64 (.ofNat 5)) H fun t23 H =>
  pC call 172 [t0, t1, t23, t3] H fun t25 H =>
  pExt t25 0 H fun t26 H =>
  pExt t25 1 H fun t27 H =>
  pNeq t27 (.int .i64 (.ofNat 0)) H fun t29 H =>
  onBool t29 (some (.tup [(.int .i64 (.ofNat 0)), (.int .i64 (.ofNat 0)), t27], H)) (pC call 251 [t0, t26, (.int .i64 (.ofNat 0)), t2] H fun _ H =>
  some (.tup [t26, (.int .i64 (.ofNat 0)), (.int .i64 (.ofNat 0))], H)))
noncomputable def S174_1 (call : CallFn) (t0 t1 t2 t3 : AV) (H : AHeap) : R :=
  pLss t2 (.int .i64 (.ofNat 0)) H fun t14 H =>
  guardA t14 false (pGtr t2 (.int .i64 (.ofNat 59)) H fun t17 H =>
  S174_0 call t0 t1 t2 t3 t14 t17 H) (S174_0 call t0 t1 t2 t3 t14 U H)
noncomputable def S174 : Ff := ⟨fun call l H => argA4 (fun t0 t1 t2 t3 => S174_1 call t0 t1 t2 t3 H) l⟩
/- (*gantline/vm.doing).kind -/
noncomputable def S176_0 (_ : CallFn) (t0 t1 : AV) (H : AHeap) : R :=
  pO (aNil t0) H fun t6 H =>
  pFa 8 t6 H fun t7 H =>
  pFa 4 t7 H fun t8 H =>
  ldK .none H t8 fun t9 H =>
  pIa 1 t9 t1 H fun t11 H =>
  ldK .none H t11 fun t12 H =>
  some (t12, H)
noncomputable def S176 : Ff := ⟨fun call l H => argA2 (fun t0 t1 => S176_0 call t0 t1 H) l⟩
/- (*gantline/vm.Machine).side -/
noncomputable def S183_0 (_ : CallFn) (t6 t11 : AV) (H : AHeap) : R :=
  ldK (.some 6) H t11 fun t80 H =>
  stK 6 H t6 t80 fun _ H =>
  ob (allM (fun o => o) [aLoad (.some 6) H t6]) fun vs => some (resV vs, H)
noncomputable def S183_1 (call : CallFn) (t0 t1 t2 : AV) (H : AHeap) : R :=
  pNew [.nilp, (.bool false), (.int .i64 (.ofNat 0)), (.int .i64 (.ofNat 0)), (.int .i64 (.ofNat 0)), (.int .i64 (.ofNat 0))] H fun t6 H =>
  pC call 89 [t1] H fun t15 H =>
  pExt t15 0 H fun t16 H =>
  pExt t15 1 H fun _ H =>
  pNew [(.int .i64 (.ofNat 0)), (.int .i64 (.ofNat 0)), .nilsl] H fun t7 H =>
  stK 3 H t7 t16 fun _ H =>
  pO (aNil t0) H fun t21 H =>
  pFa 0 t21 H fun t22 H =>
  ldK (.some 6) H t22 fun t23 H =>
  pC call 88 [t1, t23] H fun t24 H =>
  pExt t24 0 H fun t25 H =>
  pExt t24 1 H fun _ H =>
  pNew [(.int .i64 (.ofNat 0)), (.int .i64 (.ofNat 0)), (.int .i64 (.ofNat 0)), (.int .i64 (.ofNat 0)), (.int .i64 (.ofNat 0))] H fun t9 H =>
  stK 5 H t9 t25 fun _ H =>
  pFa 1 t7 H fun t28 H =>
  ldK .none H t28 fun t29 H =>
  pAdd t29 (.int .i64 (.ofNat 1)) H fun t30 H =>
  pO (someAgg (aFill [.nilp, (.bool false), (.int .i64 (.ofNat 0)), (.int .i64 (.ofNat 0)), (.int .i64 (.ofNat 0)), (.int .i64 (.ofNat 0))] [(0, 1, t1), (4, 1, (.int .i64 (.negSucc 0))), (5, 1, t30)])) H fun t31 H =>
  pNew [.nilp, (.bool false), (.int .i64 (.ofNat 0)), (.int .i64 (.ofNat 0)), (.int .i64 (.ofNat 0)), (.int .i64 (.ofNat 0))] H fun t11 H =>
  stK 6 H t11 t31 fun _ H =>
  pFa 0 t9 H fun t32 H =>
  ldK .none H t32 fun t33 H =>
  pEql t33 (.int .i64 (.ofNat 38)) H fun t35 H =>
  onBool t35 (pFa 1 t9 H fun t36 H =>
  ldK .none H t36 fun t37 H =>
  pFa 2 t9 H fun t38 H =>
  ldK .none H t38 fun t39 H =>
  pFa 1 t11 H fun t40 H =>
  stK 1 H t40 (.bool true) fun _ H =>
  andR (andB (ckV (aLoad .none H t36) t37) (andB (ckV (aLoad .none H t38) t39) true)) (
  pFa 2 t11 H fun t41 H =>
  stK 1 H t41 t37 fun _ H =>
  andR (andB (ckV (aLoad .none H t38) t39) true) (
  pFa 3 t11 H fun t42 H =>
  stK 1 H t42 t39 fun _ H =>
  S183_0 call t6 t11 H))) (pEql t33 (.int .i64 (.ofNat 39)) H fun t44 H =>
  onBool t44 (pFa 2 t9 H fun t45 H =>
  ldK .none H t45 fun t46 H =>
  pFa 1 t9 H fun t47 H =>
  ldK .none H t47 fun t48 H =>
  pFa 3 t9 H fun t49 H =>
  ldK .none H t49 fun t50 H =>
  pFa 2 t11 H fun t51 H =>
  stK 1 H t51 t46 fun _ H =>
  andR (andB (ckV (aLoad .none H t47) t48) (andB (ckV (aLoad .none H t49) t50) true)) (
  pFa 3 t11 H fun t52 H =>
  stK 1 H t52 t48 fun _ H =>
  andR (andB (ckV (aLoad .none H t49) t50) true) (
  pFa 4 t11 H fun t53 H =>
  stK 1 H t53 t50 fun _ H =>
  S183_0 call t6 t11 H))) (pEql t33 (.int .i64 (.ofNat 41)) H fun t55 H =>
  onBool t55 (pO (aNil t0) H fun t57 H =>
  pFa 0 t57 H fun t58 H =>
  pFa 3 t58 H fun t59 H =>
  ldK .none H t59 fun t60 H =>
  pFa 1 t9 H fun t61 H =>
  ldK .none H t61 fun t62 H =>
  pAdd t62 t2 H fun t64 H =>
  pIa 4 t60 t64 H fun t65 H =>
  ldK (.some 4) H t65 fun t66 H =>
  pNew [(.int .i64 (.ofNat 0)), (.int .i64 (.ofNat 0)), (.int .i64 (.ofNat 0)), (.int .i64 (.ofNat 0))] H fun t12 H =>
  stK 4 H t12 t66 fun _ H =>
  pFa 0 t12 H fun t67 H =>
  ldK .none H t67 fun t68 H =>
  pEql t68 (.int .i64 (.ofNat 1)) H fun t69 H =>
  pFa 1 t12 H fun t70 H =>
  ldK .none H t70 fun t71 H =>
  pFa 2 t12 H fun t72 H =>
  ldK .none H t72 fun t73 H =>
  pFa 3 t12 H fun t74 H =>
  ldK .none H t74 fun t75 H =>
  pFa 1 t11 H fun t76 H =>
  stK 1 H t76 t69 fun _ H =>
  andR (andB (ckV (aLoad .none H t70) t71) (andB (ckV (aLoad .none H t72) t73) (andB (ckV (aLoad .none H t74) t75) true))) (
  pFa 2 t11 H fun t77 H =>
  stK 1 H t77 t71 fun _ H =>
  andR (andB (ckV (aLoad .none H t72) t73) (andB (ckV (aLoad .none H t74) t75) true)) (
  pFa 3 t11 H fun t78 H =>
  stK 1 H t78 t73 fun _ H =>
  andR (andB (ckV (aLoad .none H t74) t75) true) (
  pFa 5 t11 H fun t79 H =>
  stK 1 H t79 t75 fun _ H =>
  S183_0 call t6 t11 H)))) (S183_0 call t6 t11 H)))
noncomputable def S183 : Ff := ⟨fun call l H => argA3 (fun t0 t1 t2 => S183_1 call t0 t1 t2 H) l⟩
/- (*gantline/vm.doing).fits -/
noncomputable def S184_0 (_ : CallFn) (t23 t32 : AV) (H : AHeap) : R :=
  pPick t23 (.bool true) t32 H fun t33 H =>
  some (t33, H)
noncomputable def S184_1 (call : CallFn) (t0 t1 : AV) (H : AHeap) : R :=
  pBox t1 H fun t3 H =>
  pFa 0 t3 H fun t6 H =>
  ldK .none H t6 fun t7 H =>
  pFa 2 t3 H fun t8 H =>
  ldK .none H t8 fun t9 H =>
  pC call 131 [t7, t9] H fun t10 H =>
  pFa 3 t3 H fun t11 H =>
  ldK .none H t11 fun t12 H =>
  pEql t12 (.int .i64 (.negSucc 0)) H fun t13 H =>
  onBool t13 (pO (aNil t0) H fun t15 H =>
  pFa 0 t15 H fun t16 H =>
  ldK .none H t16 fun t17 H =>
  pO (aNil t17) H fun t18 H =>
  pFa 6 t18 H fun t19 H =>
  ldK .none H t19 fun t20 H =>
  pC call 255 [t20, t10, (.bool true)] H fun t22 H =>
  guardA t22 false (pO (aNil t0) H fun t25 H =>
  pFa 0 t25 H fun t26 H =>
  ldK .none H t26 fun t27 H =>
  pO (aNil t27) H fun t28 H =>
  pFa 6 t28 H fun t29 H =>
  ldK .none H t29 fun t30 H =>
  pC call 255 [t30, t10, (.bool false)] H fun t32 H =>
  S184_0 call t22 t32 H) (S184_0 call t22 U H)) (pO (aNil t0) H fun t35 H =>
  pFa 0 t35 H fun t36 H =>
  ldK .none H t36 fun t37 H =>
  pO (aNil t37) H fun t38 H =>
  pFa 6 t38 H fun t39 H =>
  ldK .none H t39 fun t40 H =>
  pFa 3 t3 H fun t43 H =>
  ldK .none H t43 fun t44 H =>
  pC call 176 [t0, t44] H fun t45 H =>
  andR (andB (ckV (aLoad .none H t36) t37) (andB (ckV (aLoad .none H t39) t40) true)) (
  pC call 255 [t40, t10, t45] H fun t46 H =>
  some (t46, H)))
noncomputable def S184 : Ff := ⟨fun call l H => argA2 (fun t0 t1 => S184_1 call t0 t1 H) l⟩
/- (*gantline/vm.doing).meet -/
noncomputable def S185_0 (call : CallFn) (t4 t5 t6 : AV) (H : AHeap) : R :=
  pFa 0 t4 H fun t35 H =>
  ldK .none H t35 fun t36 H =>
  pFa 5 t4 H fun t37 H =>
  ldK .none H t37 fun t38 H =>
  pC call 163 [t36, t38] H fun _ H =>
  ldK (.some 6) H t5 fun t40 H =>
  pC call 188 [t40, t6, (.bool true)] H fun _ H =>
  some (.tup [], H)
noncomputable def S185_1 (call : CallFn) (t0 t4 t5 : AV) (H : AHeap) : R :=
  pFa 0 t4 H fun t11 H =>
  ldK .none H t11 fun t12 H =>
  pFa 3 t4 H fun t13 H =>
  ldK .none H t13 fun t14 H =>
  pC call 131 [t12, t14] H fun t15 H =>
  pO (aNil t0) H fun t17 H =>
  pFa 0 t17 H fun t18 H =>
  ldK .none H t18 fun t19 H =>
  pO (aNil t19) H fun t20 H =>
  pFa 6 t20 H fun t21 H =>
  ldK .none H t21 fun t22 H =>
  pFa 0 t4 H fun t23 H =>
  ldK .none H t23 fun t24 H =>
  pFa 2 t4 H fun t25 H =>
  ldK .none H t25 fun t26 H =>
  pC call 131 [t24, t26] H fun t27 H =>
  andR (andB (ckV (aLoad .none H t18) t19) (andB (ckV (aLoad .none H t21) t22) true)) (
  pC call 255 [t22, t27, (.bool true)] H fun t28 H =>
  onBool t28 (pO (aNil t0) H fun t30 H =>
  pFa 0 t30 H fun t31 H =>
  ldK .none H t31 fun t32 H =>
  pC call 243 [t32, t15] H fun _ H =>
  S185_0 call t4 t5 t15 H) (S185_0 call t4 t5 t15 H))
noncomputable def S185_2 (call : CallFn) (t0 t1 t2 : AV) (H : AHeap) : R :=
  pBox t1 H fun t4 H =>
  pBox t2 H fun t5 H =>
  pFa 1 t5 H fun t7 H =>
  ldK .none H t7 fun t8 H =>
  onBool t8 (ldK (.some 6) H t5 fun t9 H =>
  ldK (.some 6) H t4 fun t10 H =>
  stK 6 H t4 t9 fun _ H =>
  stK 6 H t5 t10 fun _ H =>
  S185_1 call t0 t4 t5 H) (S185_1 call t0 t4 t5 H)
noncomputable def S185 : Ff := ⟨fun call l H => argA3 (fun t0 t1 t2 => S185_2 call t0 t1 t2 H) l⟩
/- (*gantline/vm.doing).send -/
noncomputable def S186_0 (call : CallFn) (t0 t1 : AV) (H : AHeap) : R :=
  pBox t1 H fun t3 H =>
  pO (aNil t0) H fun t6 H =>
  pFa 2 t6 H fun t7 H =>
  ldK .none H t7 fun t8 H =>
  pFa 2 t3 H fun t9 H =>
  ldK .none H t9 fun t10 H =>
  pC call 131 [t8, t10] H fun t11 H =>
  pO (aNil t0) H fun t13 H =>
  pFa 0 t13 H fun t14 H =>
  ldK .none H t14 fun t15 H =>
  pO (aNil t15) H fun t16 H =>
  pFa 6 t16 H fun t17 H =>
  ldK .none H t17 fun t18 H =>
  pC call 215 [t18, t11] H fun t20 H =>
  onBool t20 (pO (aNil t0) H fun t22 H =>
  pFa 0 t22 H fun t23 H =>
  ldK .none H t23 fun t24 H =>
  pC call 133 [t24, (.int .i64 (.ofNat 4))] H fun _ H =>
  some (.tup [], H)) (pO (aNil t0) H fun t27 H =>
  pFa 0 t27 H fun t28 H =>
  ldK .none H t28 fun t29 H =>
  pO (aNil t29) H fun t30 H =>
  pFa 6 t30 H fun t31 H =>
  ldK .none H t31 fun t32 H =>
  pO (aNil t0) H fun t35 H =>
  pFa 2 t35 H fun t36 H =>
  ldK .none H t36 fun t37 H =>
  pFa 3 t3 H fun t38 H =>
  ldK .none H t38 fun t39 H =>
  pO (aNil t0) H fun t42 H =>
  pFa 1 t42 H fun t43 H =>
  ldK .none H t43 fun t44 H =>
  pC call 131 [t37, t39] H fun t40 H =>
  andR (andB (ckV (aLoad .none H t28) t29) (andB (ckV (aLoad .none H t31) t32) (andB (ckV (aLoad .none H t43) t44) true))) (
  pC call 257 [t32, t11, t40, t44] H fun _ H =>
  pO (aNil t0) H fun t47 H =>
  pFa 2 t47 H fun t48 H =>
  ldK .none H t48 fun t49 H =>
  pFa 5 t3 H fun t50 H =>
  ldK .none H t50 fun t51 H =>
  pC call 163 [t49, t51] H fun _ H =>
  some (.tup [], H)))
noncomputable def S186 : Ff := ⟨fun call l H => argA2 (fun t0 t1 => S186_0 call t0 t1 H) l⟩
/- gantline/chans.Pop -/
noncomputable def S187_0 (call : CallFn) (t0 t1 t6 t7 t8 : AV) (H : AHeap) : R :=
  pC call 251 [t0, t1, t7, (.int .i64 (.ofNat 0))] H fun _ H =>
  pAdd t6 (.int .i64 (.ofNat 1)) H fun t52 H =>
  pC call 217 [t0, t1] H fun t55 H =>
  pO (aBin .rem t52 t55) H fun t56 H =>
  pC call 251 [t0, t1, (.int .i64 (.ofNat 2)), t56] H fun _ H =>
  pC call 216 [t0, t1] H fun t62 H =>
  pSub t62 (.int .i64 (.ofNat 1)) H fun t63 H =>
  pC call 251 [t0, t1, (.int .i64 (.ofNat 1)), t63] H fun _ H =>
  some (.tup [t8, (.bool true)], H)
noncomputable def S187_1 (call : CallFn) (t0 t1 t15 t19 : AV) (H : AHeap) : R :=
  pPick t15 (.bool true) t19 H fun t20 H =>
  onBool t20 (some (.tup [(.int .i64 (.ofNat 0)), (.bool false)], H)) (pC call 258 [t0, t1, (.int .i64 (.ofNat 2))] H fun t23 H =>
  pC call 217 [t0, t1] H fun t27 H =>
  pO (aBin .rem t23 t27) H fun t28 H =>
  pAdd (.int .i64 (.ofNat 4)) t28 H fun t29 H =>
  pC call 258 [t0, t1, t29] H fun t33 H =>
  pC call 259 [t0, t1] H fun t37 H =>
  pExt t37 0 H fun _ H =>
  pExt t37 1 H fun t39 H =>
  onBool t39 (pC call 46 [t0] H fun t42 H =>
  pC call 181 [t42, t33, (.int .i64 (.ofNat 0)), (.int .i64 (.negSucc 0))] H fun _ H =>
  S187_0 call t0 t1 t23 t29 t33 H) (S187_0 call t0 t1 t23 t29 t33 H))
noncomputable def S187_2 (call : CallFn) (t0 t1 : AV) (H : AHeap) : R :=
  pC call 216 [t0, t1] H fun t13 H =>
  pLss t13 (.int .i64 (.ofNat 1)) H fun t14 H =>
  guardA t14 false (pC call 217 [t0, t1] H fun t18 H =>
  pLss t18 (.int .i64 (.ofNat 1)) H fun t19 H =>
  S187_1 call t0 t1 t14 t19 H) (S187_1 call t0 t1 t14 U H)
noncomputable def S187 : Ff := ⟨fun call l H => argA2 (fun t0 t1 => S187_2 call t0 t1 H) l⟩
/- (gantline/vm.side).got -/
noncomputable def S188_0 (call : CallFn) (t3 : AV) (H : AHeap) : R :=
  pFa 0 t3 H fun t25 H =>
  ldK .none H t25 fun t26 H =>
  pFa 5 t3 H fun t27 H =>
  ldK .none H t27 fun t28 H =>
  pC call 163 [t26, t28] H fun _ H =>
  some (.tup [], H)
noncomputable def S188_1 (call : CallFn) (t2 t3 : AV) (H : AHeap) : R :=
  pFa 4 t3 H fun t15 H =>
  ldK .none H t15 fun t16 H =>
  pNeq t16 (.int .i64 (.negSucc 0)) H fun t17 H =>
  onBool t17 (pFa 0 t3 H fun t18 H =>
  ldK .none H t18 fun t19 H =>
  pFa 4 t3 H fun t20 H =>
  ldK .none H t20 fun t21 H =>
  pC call 162 [t2] H fun t23 H =>
  andR (andB (ckV (aLoad .none H t18) t19) (andB (ckV (aLoad .none H t20) t21) true)) (
  pC call 229 [t19, t21, t23] H fun _ H =>
  S188_0 call t3 H)) (S188_0 call t3 H)
noncomputable def S188_2 (call : CallFn) (t0 t1 t2 : AV) (H : AHeap) : R :=
  pBox t0 H fun t3 H =>
  pFa 3 t3 H fun t6 H =>
  ldK .none H t6 fun t7 H =>
  pNeq t7 (.int .i64 (.negSucc 0)) H fun t8 H =>
  onBool t8 (pFa 0 t3 H fun t9 H =>
  ldK .none H t9 fun t10 H =>
  pFa 3 t3 H fun t11 H =>
  ldK .none H t11 fun t12 H =>
  pC call 229 [t10, t12, t1] H fun _ H =>
  S188_1 call t2 t3 H) (S188_1 call t2 t3 H)
noncomputable def S188 : Ff := ⟨fun call l H => argA3 (fun t0 t1 t2 => S188_2 call t0 t1 t2 H) l⟩
/- slices.insertionSortOrdered[int] -/
noncomputable def S189_1 (_ : CallFn) (q0 : AV → AV → AV → AV → AHeap → R) (t0 t1 t2 t6 : AV) (H : AHeap) : R :=
  pAdd t6 (.int .i64 (.ofNat 1)) H fun t14 H =>
  q0 t0 t1 t2 t14 H
noncomputable def S189_3 (call : CallFn) (q0 : AV → AV → AV → AV → AHeap → R) (q1 : AV → AV → AV → AV → AV → AHeap → R) (t0 t1 t2 t6 t7 t19 t29 : AV) (H : AHeap) : R :=
  pPick t19 t29 (.bool false) H fun t30 H =>
  onBool t30 (pSub t7 (.int .i64 (.ofNat 1)) H fun t37 H =>
  pSub t7 (.int .i64 (.ofNat 1)) H fun t40 H =>
  pIa 1 t0 t40 H fun t41 H =>
  ldK .none H t41 fun t42 H =>
  pIa 1 t0 t7 H fun t45 H =>
  ldK .none H t45 fun t46 H =>
  pIa 1 t0 t7 H fun t47 H =>
  stK 1 H t47 t42 fun _ H =>
  pIa 1 t0 t37 H fun t48 H =>
  stK 1 H t48 t46 fun _ H =>
  pSub t7 (.int .i64 (.ofNat 1)) H fun t32 H =>
  q1 t0 t1 t2 t6 t32 H) (S189_1 call q0 t0 t1 t2 t6 H)
noncomputable def S189_4 (call : CallFn) (q0 : AV → AV → AV → AV → AHeap → R) (q1 : AV → AV → AV → AV → AV → AHeap → R) (t0 t1 t2 t6 t7 t19 t23 t28 : AV) (H : AHeap) : R :=
  guardA t19 true (pC call 195 [t23, t28] H fun t29 H =>
  S189_3 call q0 q1 t0 t1 t2 t6 t7 t19 t29 H) (S189_3 call q0 q1 t0 t1 t2 t6 t7 t19 U H)
noncomputable def S189_5 (call : CallFn) (q0 : AV → AV → AV → AV → AHeap → R) (q1 : AV → AV → AV → AV → AV → AHeap → R) (t0 t1 t2 t6 t7 t19 t23 t27 : AV) (H : AHeap) : R :=
  guardA t19 true (ldK .none H t27 fun t28 H =>
  S189_4 call q0 q1 t0 t1 t2 t6 t7 t19 t23 t28 H) (S189_4 call q0 q1 t0 t1 t2 t6 t7 t19 t23 U H)
noncomputable def S189_6 (call : CallFn) (q0 : AV → AV → AV → AV → AHeap → R) (q1 : AV → AV → AV → AV → AV → AHeap → R) (t0 t1 t2 t6 t7 t19 t23 t24 t26 : AV) (H : AHeap) : R :=
  guardA t19 true (pIa 1 t24 t26 H fun t27 H =>
  S189_5 call q0 q1 t0 t1 t2 t6 t7 t19 t23 t27 H) (S189_5 call q0 q1 t0 t1 t2 t6 t7 t19 t23 U H)
noncomputable def S189_7 (call : CallFn) (q0 : AV → AV → AV → AV → AHeap → R) (q1 : AV → AV → AV → AV → AV → AHeap → R) (t0 t1 t2 t6 t7 t19 t23 t24 t25 : AV) (H : AHeap) : R :=
  guardA t19 true (pSub t25 (.int .i64 (.ofNat 1)) H fun t26 H =>
  S189_6 call q0 q1 t0 t1 t2 t6 t7 t19 t23 t24 t26 H) (S189_6 call q0 q1 t0 t1 t2 t6 t7 t19 t23 t24 U H)
noncomputable def S189_8 (call : CallFn) (q0 : AV → AV → AV → AV → AHeap → R) (q1 : AV → AV → AV → AV → AV → AHeap → R) (t0 t1 t2 t6 t7 t19 t23 t24 : AV) (H : AHeap) : R :=
  guardA t19 true (S189_7 call q0 q1 t0 t1 t2 t6 t7 t19 t23 t24 t7 H) (S189_7 call q0 q1 t0 t1 t2 t6 t7 t19 t23 t24 U H)
noncomputable def S189_9 (call : CallFn) (q0 : AV → AV → AV → AV → AHeap → R) (q1 : AV → AV → AV → AV → AV → AHeap → R) (t0 t1 t2 t6 t7 t19 t23 : AV) (H : AHeap) : R :=
  guardA t19 true (S189_8 call q0 q1 t0 t1 t2 t6 t7 t19 t23 t0 H) (S189_8 call q0 q1 t0 t1 t2 t6 t7 t19 t23 U H)
noncomputable def S189_10 (call : CallFn) (q0 : AV → AV → AV → AV → AHeap → R) (q1 : AV → AV → AV → AV → AV → AHeap → R) (t0 t1 t2 t6 t7 t19 t22 : AV) (H : AHeap) : R :=
  guardA t19 true (ldK .none H t22 fun t23 H =>
  S189_9 call q0 q1 t0 t1 t2 t6 t7 t19 t23 H) (S189_9 call q0 q1 t0 t1 t2 t6 t7 t19 U H)
noncomputable def S189_11 (call : CallFn) (q0 : AV → AV → AV → AV → AHeap → R) (q1 : AV → AV → AV → AV → AV → AHeap → R) (t0 t1 t2 t6 t7 t19 t20 t21 : AV) (H : AHeap) : R :=
  guardA t19 true (pIa 1 t20 t21 H fun t22 H =>
  S189_10 call q0 q1 t0 t1 t2 t6 t7 t19 t22 H) (S189_10 call q0 q1 t0 t1 t2 t6 t7 t19 U H)
noncomputable def S189_12 (call : CallFn) (q0 : AV → AV → AV → AV → AHeap → R) (q1 : AV → AV → AV → AV → AV → AHeap → R) (t0 t1 t2 t6 t7 t19 t20 : AV) (H : AHeap) : R :=
  guardA t19 true (S189_11 call q0 q1 t0 t1 t2 t6 t7 t19 t20 t7 H) (S189_11 call q0 q1 t0 t1 t2 t6 t7 t19 t20 U H)
noncomputable def S189_2 (call : CallFn) (q0 : AV → AV → AV → AV → AHeap → R) (n : Nat) : AV → AV → AV → AV → AV → AHeap → R :=
  Nat.rec (motive := fun _ => AV → AV → AV → AV → AV → AHeap → R) (fun _ _ _ _ _ _ => none) (fun _ q1 t0 t1 t2 t6 t7 H => pGtr t7 t1 H fun t18 H =>
  guardA t18 true (S189_12 call q0 q1 t0 t1 t2 t6 t7 t18 t0 H) (S189_12 call q0 q1 t0 t1 t2 t6 t7 t18 U H)) n
noncomputable def S189_0 (call : CallFn) (n : Nat) : AV → AV → AV → AV → AHeap → R :=
  Nat.rec (motive := fun _ => AV → AV → AV → AV → AHeap → R) (fun _ _ _ _ _ => none) (fun _ q0 t0 t1 t2 t6 H => pLss t6 t2 H fun t12 H =>
  onBool t12 (S189_2 call q0 1000000 t0 t1 t2 t6 t6 H) (some (.tup [], H))) n
noncomputable def S189_13 (call : CallFn) (t0 t1 t2 : AV) (H : AHeap) : R :=
  pAdd t1 (.int .i64 (.ofNat 1)) H fun t9 H =>
  S189_0 call 1000000 t0 t1 t2 t9 H
noncomputable def S189 : Ff := ⟨fun call l H => argA3 (fun t0 t1 t2 => S189_13 call t0 t1 t2 H) l⟩
/- math/bits.Len64 -/
noncomputable def S199_0 (_ : CallFn) (t0 t2 : AV) (H : AHeap) : R :=
  pConv .u8 t0 H fun t21 H =>
  pO (aIdxS (.str [0, 1, 2, 2, 3, 3, 3, 3, 4, 4, 4, 4, 4, 4, 4, 4, 5, 5, 5, 5, 5, 5, 5, 5, 5, 5, 5, 5, 5, 5, 5, 5, 6, 6, 6, 6, 6, 6, 6, 6, 6, 6, 6, 6, 6, 6, 6, 6, 6, 6, 6, 6, 6, 6, 6, 6, 6, 6, 6, 6, 6, 6, 6, 6, 7, 7, 7, 7, 7, 7, 7, 7, 7, 7, 7, 7, 7, 7, 7, 7, 7, 7, 7, 7, 7, 7, 7, 7, 7, 7, 7, 7, 7, 7, 7, 7, 7, 7, 7, 7, 7, 7, 7, 7, 7, 7, 7, 7, 7, 7, 7, 7, 7, 7, 7, 7, 7, 7, 7, 7, 7, 7, 7, 7, 7, 7, 7, 7, 8, 8, 8, 8, 8, 8, 8, 8, 8, 8, 8, 8, 8, 8, 8, 8, 8, 8, 8, 8, 8, 8, 8, 8, 8, 8, 8, 8, 8, 8, 8, 8, 8, 8, 8, 8, 8, 8, 8, 8, 8, 8, 8, 8, 8, 8, 8, 8, 8, 8, 8, 8, 8, 8, 8, 8, 8, 8, 8, 8, 8, 8, 8, 8, 8, 8, 8, 8, 8, 8, 8, 8, 8, 8, 8, 8, 8, 8, 8, 8, 8, 8, 8, 8, 8, 8, 8, 8, 8, 8, 8, 8, 8, 8, 8, 8, 8, 8, 8, 8, 8, 8, 8, 8, 8, 8, 8, 8, 8, 8, 8, 8, 8, 8, 8, 8, 8, 8, 8, 8, 8, 8, 8, 8, 8, 8, 8, 8]) t21) H fun t22 H =>
  pConv .i64 t22 H fun t23 H =>
  pAdd t2 t23 H fun t24 H =>
  some (t24, H)
noncomputable def S199_1 (call : CallFn) (t0 t2 : AV) (H : AHeap) : R :=
  pGeq t0 (.int .u64 (.ofNat 256)) H fun t14 H =>
  onBool t14 (pO (aBin .shr t0 (.int .u64 (.ofNat 8))) H fun t16 H =>
  pAdd t2 (.int .i64 (.ofNat 8)) H fun t18 H =>
  S199_0 call t16 t18 H) (S199_0 call t0 t2 H)
noncomputable def S199_2 (call : CallFn) (t0 t2 : AV) (H : AHeap) : R :=
  pGeq t0 (.int .u64 (.ofNat 65536)) H fun t8 H =>
  onBool t8 (pO (aBin .shr t0 (.int .u64 (.ofNat 16))) H fun t10 H =>
  pAdd t2 (.int .i64 (.ofNat 16)) H fun t12 H =>
  S199_1 call t10 t12 H) (S199_1 call t0 t2 H)
noncomputable def S199_3 (call : CallFn) (t0 : AV) (H : AHeap) : R :=
  pGeq t0 (.int .u64 (.ofNat 4294967296)) H fun t4 H =>
  onBool t4 (pO (aBin .shr t0 (.int .u64 (.ofNat 32))) H fun t6 H =>
  S199_2 call t6 (.int .i64 (.ofNat 32)) H) (S199_2 call t0 (.int .i64 (.ofNat 0)) H)
noncomputable def S199 : Ff := ⟨fun call l H => argA1 (fun t0 => S199_3 call t0 H) l⟩
/- gantline/verify.module$1 -/
noncomputable def S200_0 (call : CallFn) (t0 : AV) (H : AHeap) : R :=
  pBox t0 H fun t1 H =>
  ldK (.some 3) H t1 fun t3 H =>
  pC call 112 [t3] H fun t4 H =>
  pO (aUn .not t4) H fun t5 H =>
  some (t5, H)
noncomputable def S200 : Ff := ⟨fun call l H => argA1 (fun t0 => S200_0 call t0 H) l⟩
/- gantline/verify.module$2 -/
noncomputable def S201_0 (call : CallFn) (t0 : AV) (H : AHeap) : R :=
  pC call 202 [t0] H fun t4 H =>
  pNeq t4 t0 H fun t6 H =>
  some (t6, H)
noncomputable def S201 : Ff := ⟨fun call l H => argA1 (fun t0 => S201_0 call t0 H) l⟩
/- gantline/bits.Wrap -/
noncomputable def S202_0 (_ : CallFn) (t0 : AV) (H : AHeap) : R :=
  pO (aBin .shl t0 (.int .u64 (.ofNat 1))) H fun t4 H =>
  pO (aBin .shr t4 (.int .u64 (.ofNat 1))) H fun t5 H =>
  some (t5, H)
noncomputable def S202 : Ff := ⟨fun call l H => argA1 (fun t0 => S202_0 call t0 H) l⟩
/- slices.ContainsFunc[[]gantline/head.Shape,gantline/head.Shape] -/
noncomputable def S203_0 (call : CallFn) (t0 t1 : AV) (H : AHeap) : R :=
  pC call 266 [t0, t1] H fun t7 H =>
  pGeq t7 (.int .i64 (.ofNat 0)) H fun t8 H =>
  some (t8, H)
noncomputable def S203 : Ff := ⟨fun call l H => argA2 (fun t0 t1 => S203_0 call t0 t1 H) l⟩
/- slices.ContainsFunc[[]int64,int64] -/
noncomputable def S204_0 (call : CallFn) (t0 t1 : AV) (H : AHeap) : R :=
  pC call 267 [t0, t1] H fun t7 H =>
  pGeq t7 (.int .i64 (.ofNat 0)) H fun t8 H =>
  some (t8, H)
noncomputable def S204 : Ff := ⟨fun call l H => argA2 (fun t0 t1 => S204_0 call t0 t1 H) l⟩
/- slices.Index[[]int,int] -/
noncomputable def S205_0 (_ : CallFn) (n : Nat) : AV → AV → AV → AV → AHeap → R :=
  Nat.rec (motive := fun _ => AV → AV → AV → AV → AHeap → R) (fun _ _ _ _ _ => none) (fun _ q0 t0 t1 t7 t8 H => pLss t8 t7 H fun t9 H =>
  onBool t9 (pIa 1 t0 t8 H fun t14 H =>
  ldK .none H t14 fun t15 H =>
  pEql t1 t15 H fun t16 H =>
  onBool t16 (some (t8, H)) (pAdd t8 (.int .i64 (.ofNat 1)) H fun t18 H =>
  q0 t0 t1 t7 t18 H)) (some ((.int .i64 (.negSucc 0)), H))) n
noncomputable def S205_1 (call : CallFn) (t0 t1 : AV) (H : AHeap) : R :=
  pO (aLen .sl H t0) H fun t7 H =>
  S205_0 call 1000000 t0 t1 t7 (.int .i64 (.ofNat 0)) H
noncomputable def S205 : Ff := ⟨fun call l H => argA2 (fun t0 t1 => S205_1 call t0 t1 H) l⟩
/- (*gantline/verify.checker).slots -/
noncomputable def S206_0 (_ : CallFn) (t31 t39 : AV) (H : AHeap) : R :=
  pPick t31 t39 (.bool false) H fun t40 H =>
  some (t40, H)
noncomputable def S206_1 (call : CallFn) (t1 t31 t32 t33 t34 t38 : AV) (H : AHeap) : R :=
  andR (andB (gdB t31 true (ckV (aLoad .none H t1) t32)) (andB (gdB t31 true (ckV (aLoad .none H t33) t34)) true)) (
  guardA t31 true (pC call 270 [t32, t34, t38] H fun t39 H =>
  S206_0 call t31 t39 H) (S206_0 call t31 U H))
noncomputable def S206_2 (call : CallFn) (t1 t31 t32 t33 t34 t35 t37 : AV) (H : AHeap) : R :=
  guardA t31 true (pC call 271 [t35, t37] H fun t38 H =>
  S206_1 call t1 t31 t32 t33 t34 t38 H) (S206_1 call t1 t31 t32 t33 t34 U H)
noncomputable def S206_3 (call : CallFn) (t1 t31 t32 t33 t34 t35 t36 : AV) (H : AHeap) : R :=
  guardA t31 true (ldK .none H t36 fun t37 H =>
  S206_2 call t1 t31 t32 t33 t34 t35 t37 H) (S206_2 call t1 t31 t32 t33 t34 t35 U H)
noncomputable def S206_4 (call : CallFn) (t1 t3 t31 t32 t33 t34 t35 : AV) (H : AHeap) : R :=
  guardA t31 true (pFa 2 t3 H fun t36 H =>
  S206_3 call t1 t31 t32 t33 t34 t35 t36 H) (S206_3 call t1 t31 t32 t33 t34 t35 U H)
noncomputable def S206_5 (call : CallFn) (t1 t3 t31 t32 t33 t34 : AV) (H : AHeap) : R :=
  guardA t31 true (ldK .none H t1 fun t35 H =>
  S206_4 call t1 t3 t31 t32 t33 t34 t35 H) (S206_4 call t1 t3 t31 t32 t33 t34 U H)
noncomputable def S206_6 (call : CallFn) (t1 t3 t31 t32 t33 : AV) (H : AHeap) : R :=
  guardA t31 true (ldK .none H t33 fun t34 H =>
  S206_5 call t1 t3 t31 t32 t33 t34 H) (S206_5 call t1 t3 t31 t32 t33 U H)
noncomputable def S206_7 (call : CallFn) (t1 t3 t31 t32 : AV) (H : AHeap) : R :=
  guardA t31 true (pFa 3 t3 H fun t33 H =>
  S206_6 call t1 t3 t31 t32 t33 H) (S206_6 call t1 t3 t31 t32 U H)
noncomputable def S206_8 (_ : CallFn) (t54 t60 : AV) (H : AHeap) : R :=
  pPick t54 t60 (.bool false) H fun t61 H =>
  some (t61, H)
noncomputable def S206_9 (call : CallFn) (t1 t3 t48 t52 : AV) (H : AHeap) : R :=
  pPick t48 t52 (.bool false) H fun t53 H =>
  guardA t53 true (ldK .none H t1 fun t55 H =>
  pFa 3 t3 H fun t56 H =>
  ldK .none H t56 fun t57 H =>
  pFa 4 t3 H fun t58 H =>
  ldK .none H t58 fun t59 H =>
  pC call 270 [t55, t57, t59] H fun t60 H =>
  S206_8 call t53 t60 H) (S206_8 call t53 U H)
noncomputable def S206_10 (_ : CallFn) (t87 t93 : AV) (H : AHeap) : R :=
  pPick t87 t93 (.bool false) H fun t94 H =>
  some (t94, H)
noncomputable def S206_11 (_ : CallFn) (t109 t115 : AV) (H : AHeap) : R :=
  pPick t109 t115 (.bool false) H fun t116 H =>
  some (t116, H)
noncomputable def S206_12 (_ : CallFn) (t130 t134 : AV) (H : AHeap) : R :=
  pPick t130 t134 (.bool false) H fun t135 H =>
  some (t135, H)
noncomputable def S206_13 (call : CallFn) (t3 t4 t124 t128 : AV) (H : AHeap) : R :=
  pPick t124 t128 (.bool false) H fun t129 H =>
  guardA t129 true (ldK .none H t4 fun t131 H =>
  pFa 3 t3 H fun t132 H =>
  ldK .none H t132 fun t133 H =>
  pV call t131 [t133] H fun t134 H =>
  S206_12 call t129 t134 H) (S206_12 call t129 U H)
noncomputable def S206_14 (call : CallFn) (t1 t3 t4 t5 t20 t22 : AV) (H : AHeap) : R :=
  pPick t20 (.bool true) t22 H fun t23 H =>
  onBool t23 (some ((.bool false), H)) (pEql t5 (.int .i64 (.ofNat 20)) H fun t26 H =>
  onBool t26 (ldK .none H t4 fun t27 H =>
  pFa 1 t3 H fun t28 H =>
  ldK .none H t28 fun t29 H =>
  pV call t27 [t29] H fun t30 H =>
  guardA t30 true (ldK .none H t1 fun t32 H =>
  S206_7 call t1 t3 t30 t32 H) (S206_7 call t1 t3 t30 U H)) (pEql t5 (.int .i64 (.ofNat 21)) H fun t43 H =>
  onBool t43 (ldK .none H t4 fun t44 H =>
  pFa 1 t3 H fun t45 H =>
  ldK .none H t45 fun t46 H =>
  pV call t44 [t46] H fun t47 H =>
  guardA t47 true (ldK .none H t1 fun t49 H =>
  pFa 2 t3 H fun t50 H =>
  ldK .none H t50 fun t51 H =>
  pC call 269 [t49, t51] H fun t52 H =>
  S206_9 call t1 t3 t47 t52 H) (S206_9 call t1 t3 t47 U H)) (pEql t5 (.int .i64 (.ofNat 22)) H fun t64 H =>
  onBool t64 (ldK .none H t4 fun t65 H =>
  pFa 1 t3 H fun t66 H =>
  ldK .none H t66 fun t67 H =>
  pV call t65 [t67] H fun t68 H =>
  some (t68, H)) (pEql t5 (.int .i64 (.ofNat 23)) H fun t71 H =>
  onBool t71 (ldK .none H t1 fun t72 H =>
  pFa 2 t3 H fun t73 H =>
  ldK .none H t73 fun t74 H =>
  ldK .none H t1 fun t75 H =>
  pFa 1 t3 H fun t76 H =>
  ldK .none H t76 fun t77 H =>
  pC call 271 [t75, t77] H fun t78 H =>
  andR (andB (ckV (aLoad .none H t1) t72) (andB (ckV (aLoad .none H t73) t74) true)) (
  pC call 270 [t72, t74, t78] H fun t79 H =>
  some (t79, H))) (pEql t5 (.int .i64 (.ofNat 24)) H fun t82 H =>
  onBool t82 (ldK .none H t1 fun t83 H =>
  pFa 1 t3 H fun t84 H =>
  ldK .none H t84 fun t85 H =>
  pC call 269 [t83, t85] H fun t86 H =>
  guardA t86 true (ldK .none H t1 fun t88 H =>
  pFa 2 t3 H fun t89 H =>
  ldK .none H t89 fun t90 H =>
  pFa 3 t3 H fun t91 H =>
  ldK .none H t91 fun t92 H =>
  pC call 270 [t88, t90, t92] H fun t93 H =>
  S206_10 call t86 t93 H) (S206_10 call t86 U H)) (pEql t5 (.int .i64 (.ofNat 36)) H fun t97 H =>
  onBool t97 (ldK .none H t1 fun t99 H =>
  pFa 2 t3 H fun t100 H =>
  ldK .none H t100 fun t101 H =>
  pC call 272 [t99, t101] H fun t102 H =>
  pExt t102 0 H fun t103 H =>
  pExt t102 1 H fun _ H =>
  pNew [(.int .i64 (.ofNat 0)), (.int .i64 (.ofNat 0)), (.int .i64 (.ofNat 0)), (.int .i64 (.ofNat 0)), .nilsl, .nilsl, .nilsl] H fun t6 H =>
  stK 7 H t6 t103 fun _ H =>
  ldK .none H t1 fun t105 H =>
  pFa 1 t3 H fun t106 H =>
  ldK .none H t106 fun t107 H =>
  pC call 269 [t105, t107] H fun t108 H =>
  guardA t108 true (ldK .none H t1 fun t110 H =>
  pFa 3 t3 H fun t111 H =>
  ldK .none H t111 fun t112 H =>
  pFa 1 t6 H fun t113 H =>
  ldK .none H t113 fun t114 H =>
  pC call 270 [t110, t112, t114] H fun t115 H =>
  S206_11 call t108 t115 H) (S206_11 call t108 U H)) (pEql t5 (.int .i64 (.ofNat 39)) H fun t119 H =>
  onBool t119 (ldK .none H t4 fun t120 H =>
  pFa 1 t3 H fun t121 H =>
  ldK .none H t121 fun t122 H =>
  pV call t120 [t122] H fun t123 H =>
  guardA t123 true (ldK .none H t1 fun t125 H =>
  pFa 2 t3 H fun t126 H =>
  ldK .none H t126 fun t127 H =>
  pC call 269 [t125, t127] H fun t128 H =>
  S206_13 call t3 t4 t123 t128 H) (S206_13 call t3 t4 t123 U H)) (pEql t5 (.int .i64 (.ofNat 41)) H fun t138 H =>
  onBool t138 (ldK .none H t1 fun t140 H =>
  pC call 273 [t140] H fun t141 H =>
  pExt t141 0 H fun t142 H =>
  pExt t141 1 H fun _ H =>
  pC call 274 [t142, (.fn 275 [] [t1, t4])] H fun t146 H =>
  pO (aUn .not t146) H fun t147 H =>
  some (t147, H)) (ldK .none H t1 fun t148 H =>
  pO (aNil t148) H fun t149 H =>
  pFa 0 t149 H fun t150 H =>
  ldK (.some 6) H t150 fun t151 H =>
  ldK (.some 5) H t3 fun t152 H =>
  ldK (.some 5) H t3 fun t154 H =>
  pC call 69 [t151, t152] H fun t153 H =>
  andR (andB (ckV (aLoad (.some 5) H t3) t154) true) (
  pC call 70 [t154] H fun t155 H =>
  pW (aApp 1 8 H t153 t155) fun t156 H =>
  pC call 276 [t156, (.fn 277 [] [t1])] H fun t158 H =>
  pO (aUn .not t158) H fun t159 H =>
  some (t159, H)))))))))))
noncomputable def S206_15 (call : CallFn) (t0 : AV) (H : AHeap) : R :=
  pBox t0 H fun t1 H =>
  ldK .none H t1 fun t10 H =>
  pO (aNil t10) H fun t11 H =>
  pFa 17 t11 H fun t12 H =>
  ldK (.some 5) H t12 fun t13 H =>
  pNew [(.int .i64 (.ofNat 0)), (.int .i64 (.ofNat 0)), (.int .i64 (.ofNat 0)), (.int .i64 (.ofNat 0)), (.int .i64 (.ofNat 0))] H fun t3 H =>
  stK 5 H t3 t13 fun _ H =>
  pNew [.nilfn] H fun t4 H =>
  stK 1 H t4 (.fn 268 [] [t1]) fun _ H =>
  pFa 0 t3 H fun t15 H =>
  ldK .none H t15 fun t16 H =>
  pLss t16 (.int .i64 (.ofNat 0)) H fun t19 H =>
  guardA t19 false (pGtr t16 (.int .i64 (.ofNat 44)) H fun t22 H =>
  S206_14 call t1 t3 t4 t16 t19 t22 H) (S206_14 call t1 t3 t4 t16 t19 U H)
noncomputable def S206 : Ff := ⟨fun call l H => argA1 (fun t0 => S206_15 call t0 H) l⟩
/- (*gantline/verify.checker).there -/
noncomputable def S207_0 (_ : CallFn) (t21 t30 : AV) (H : AHeap) : R :=
  pPick t21 t30 (.bool false) H fun t31 H =>
  some (t31, H)
noncomputable def S207_1 (call : CallFn) (t21 t23 t29 : AV) (H : AHeap) : R :=
  guardA t21 true (pLss t23 t29 H fun t30 H =>
  S207_0 call t21 t30 H) (S207_0 call t21 U H)
noncomputable def S207_2 (call : CallFn) (t21 t23 t28 : AV) (H : AHeap) : R :=
  guardA t21 true (pO (aLen .sl H t28) H fun t29 H =>
  S207_1 call t21 t23 t29 H) (S207_1 call t21 t23 U H)
noncomputable def S207_3 (call : CallFn) (t21 t23 t27 : AV) (H : AHeap) : R :=
  guardA t21 true (ldK .none H t27 fun t28 H =>
  S207_2 call t21 t23 t28 H) (S207_2 call t21 t23 U H)
noncomputable def S207_4 (call : CallFn) (t21 t23 t26 : AV) (H : AHeap) : R :=
  guardA t21 true (pFa 2 t26 H fun t27 H =>
  S207_3 call t21 t23 t27 H) (S207_3 call t21 t23 U H)
noncomputable def S207_5 (call : CallFn) (t21 t23 t25 : AV) (H : AHeap) : R :=
  guardA t21 true (pFa 0 t25 H fun t26 H =>
  S207_4 call t21 t23 t26 H) (S207_4 call t21 t23 U H)
noncomputable def S207_6 (call : CallFn) (t21 t23 t24 : AV) (H : AHeap) : R :=
  guardA t21 true (pO (aNil t24) H fun t25 H =>
  S207_5 call t21 t23 t25 H) (S207_5 call t21 t23 U H)
noncomputable def S207_7 (call : CallFn) (t0 t21 t23 : AV) (H : AHeap) : R :=
  guardA t21 true (S207_6 call t21 t23 t0 H) (S207_6 call t21 t23 U H)
noncomputable def S207_8 (call : CallFn) (t0 t21 t22 : AV) (H : AHeap) : R :=
  guardA t21 true (ldK .none H t22 fun t23 H =>
  S207_7 call t0 t21 t23 H) (S207_7 call t0 t21 U H)
noncomputable def S207_9 (_ : CallFn) (t55 t64 : AV) (H : AHeap) : R :=
  pPick t55 t64 (.bool false) H fun t65 H =>
  some (t65, H)
noncomputable def S207_10 (call : CallFn) (t55 t57 t63 : AV) (H : AHeap) : R :=
  guardA t55 true (pLss t57 t63 H fun t64 H =>
  S207_9 call t55 t64 H) (S207_9 call t55 U H)
noncomputable def S207_11 (call : CallFn) (t55 t57 t62 : AV) (H : AHeap) : R :=
  guardA t55 true (pO (aLen .sl H t62) H fun t63 H =>
  S207_10 call t55 t57 t63 H) (S207_10 call t55 t57 U H)
noncomputable def S207_12 (call : CallFn) (t55 t57 t61 : AV) (H : AHeap) : R :=
  guardA t55 true (ldK .none H t61 fun t62 H =>
  S207_11 call t55 t57 t62 H) (S207_11 call t55 t57 U H)
noncomputable def S207_13 (call : CallFn) (t55 t57 t60 : AV) (H : AHeap) : R :=
  guardA t55 true (pFa 1 t60 H fun t61 H =>
  S207_12 call t55 t57 t61 H) (S207_12 call t55 t57 U H)
noncomputable def S207_14 (call : CallFn) (t55 t57 t59 : AV) (H : AHeap) : R :=
  guardA t55 true (pFa 0 t59 H fun t60 H =>
  S207_13 call t55 t57 t60 H) (S207_13 call t55 t57 U H)
noncomputable def S207_15 (call : CallFn) (t55 t57 t58 : AV) (H : AHeap) : R :=
  guardA t55 true (pO (aNil t58) H fun t59 H =>
  S207_14 call t55 t57 t59 H) (S207_14 call t55 t57 U H)
noncomputable def S207_16 (call : CallFn) (t0 t55 t57 : AV) (H : AHeap) : R :=
  guardA t55 true (S207_15 call t55 t57 t0 H) (S207_15 call t55 t57 U H)
noncomputable def S207_17 (call : CallFn) (t0 t55 t56 : AV) (H : AHeap) : R :=
  guardA t55 true (ldK .none H t56 fun t57 H =>
  S207_16 call t0 t55 t57 H) (S207_16 call t0 t55 U H)
noncomputable def S207_18 (_ : CallFn) (t71 t80 : AV) (H : AHeap) : R :=
  pPick t71 t80 (.bool false) H fun t81 H =>
  some (t81, H)
noncomputable def S207_19 (call : CallFn) (t71 t73 t79 : AV) (H : AHeap) : R :=
  guardA t71 true (pLss t73 t79 H fun t80 H =>
  S207_18 call t71 t80 H) (S207_18 call t71 U H)
noncomputable def S207_20 (call : CallFn) (t71 t73 t78 : AV) (H : AHeap) : R :=
  guardA t71 true (pO (aLen .sl H t78) H fun t79 H =>
  S207_19 call t71 t73 t79 H) (S207_19 call t71 t73 U H)
noncomputable def S207_21 (call : CallFn) (t71 t73 t77 : AV) (H : AHeap) : R :=
  guardA t71 true (ldK .none H t77 fun t78 H =>
  S207_20 call t71 t73 t78 H) (S207_20 call t71 t73 U H)
noncomputable def S207_22 (call : CallFn) (t71 t73 t76 : AV) (H : AHeap) : R :=
  guardA t71 true (pFa 1 t76 H fun t77 H =>
  S207_21 call t71 t73 t77 H) (S207_21 call t71 t73 U H)
noncomputable def S207_23 (call : CallFn) (t71 t73 t75 : AV) (H : AHeap) : R :=
  guardA t71 true (pFa 0 t75 H fun t76 H =>
  S207_22 call t71 t73 t76 H) (S207_22 call t71 t73 U H)
noncomputable def S207_24 (call : CallFn) (t71 t73 t74 : AV) (H : AHeap) : R :=
  guardA t71 true (pO (aNil t74) H fun t75 H =>
  S207_23 call t71 t73 t75 H) (S207_23 call t71 t73 U H)
noncomputable def S207_25 (call : CallFn) (t0 t71 t73 : AV) (H : AHeap) : R :=
  guardA t71 true (S207_24 call t71 t73 t0 H) (S207_24 call t71 t73 U H)
noncomputable def S207_26 (call : CallFn) (t0 t71 t72 : AV) (H : AHeap) : R :=
  guardA t71 true (ldK .none H t72 fun t73 H =>
  S207_25 call t0 t71 t73 H) (S207_25 call t0 t71 U H)
noncomputable def S207_27 (_ : CallFn) (t92 t95 : AV) (H : AHeap) : R :=
  pPick t92 t95 (.bool false) H fun t96 H =>
  some (t96, H)
noncomputable def S207_28 (_ : CallFn) (t112 t115 : AV) (H : AHeap) : R :=
  pPick t112 t115 (.bool false) H fun t116 H =>
  some (t116, H)
noncomputable def S207_29 (call : CallFn) (t6 t107 t110 : AV) (H : AHeap) : R :=
  pPick t107 t110 (.bool false) H fun t111 H =>
  guardA t111 true (pFa 3 t6 H fun t113 H =>
  ldK .none H t113 fun t114 H =>
  pEql t114 (.int .i64 (.ofNat 0)) H fun t115 H =>
  S207_28 call t111 t115 H) (S207_28 call t111 U H)
noncomputable def S207_30 (_ : CallFn) (t142 t145 : AV) (H : AHeap) : R :=
  pPick t142 t145 (.bool false) H fun t146 H =>
  some (t146, H)
noncomputable def S207_31 (call : CallFn) (t0 : AV) (H : AHeap) : R :=
  pO (aNil t0) H fun t11 H =>
  pFa 17 t11 H fun t12 H =>
  ldK (.some 5) H t12 fun t13 H =>
  pNew [(.int .i64 (.ofNat 0)), (.int .i64 (.ofNat 0)), (.int .i64 (.ofNat 0)), (.int .i64 (.ofNat 0)), (.int .i64 (.ofNat 0))] H fun t3 H =>
  stK 5 H t3 t13 fun _ H =>
  pFa 0 t3 H fun t14 H =>
  ldK .none H t14 fun t15 H =>
  pEql t15 (.int .i64 (.ofNat 0)) H fun t17 H =>
  onBool t17 (pFa 2 t3 H fun t18 H =>
  ldK .none H t18 fun t19 H =>
  pGeq t19 (.int .i64 (.ofNat 0)) H fun t20 H =>
  guardA t20 true (pFa 2 t3 H fun t22 H =>
  S207_8 call t0 t20 t22 H) (S207_8 call t0 t20 U H)) (pEql t15 (.int .i64 (.ofNat 25)) H fun t33 H =>
  onBool t33 (pFa 2 t3 H fun t35 H =>
  ldK .none H t35 fun t36 H =>
  pC call 278 [t0, t36, (.int .i64 (.ofNat 0))] H fun t37 H =>
  some (t37, H)) (pEql t15 (.int .i64 (.ofNat 26)) H fun t39 H =>
  onBool t39 (pFa 2 t3 H fun t41 H =>
  ldK .none H t41 fun t42 H =>
  pC call 278 [t0, t42, (.int .i64 (.ofNat 1))] H fun t43 H =>
  some (t43, H)) (pEql t15 (.int .i64 (.ofNat 37)) H fun t45 H =>
  onBool t45 (pFa 2 t3 H fun t47 H =>
  ldK .none H t47 fun t48 H =>
  pC call 278 [t0, t48, (.int .i64 (.ofNat 3))] H fun t49 H =>
  some (t49, H)) (pEql t15 (.int .i64 (.ofNat 34)) H fun t51 H =>
  onBool t51 (pFa 2 t3 H fun t52 H =>
  ldK .none H t52 fun t53 H =>
  pGeq t53 (.int .i64 (.ofNat 0)) H fun t54 H =>
  guardA t54 true (pFa 2 t3 H fun t56 H =>
  S207_17 call t0 t54 t56 H) (S207_17 call t0 t54 U H)) (pEql t15 (.int .i64 (.ofNat 35)) H fun t67 H =>
  onBool t67 (pFa 1 t3 H fun t68 H =>
  ldK .none H t68 fun t69 H =>
  pGeq t69 (.int .i64 (.ofNat 0)) H fun t70 H =>
  guardA t70 true (pFa 1 t3 H fun t72 H =>
  S207_26 call t0 t70 t72 H) (S207_26 call t0 t70 U H)) (pEql t15 (.int .i64 (.ofNat 20)) H fun t83 H =>
  onBool t83 (pFa 2 t3 H fun t86 H =>
  ldK .none H t86 fun t87 H =>
  pC call 272 [t0, t87] H fun t88 H =>
  pExt t88 0 H fun t89 H =>
  pExt t88 1 H fun t90 H =>
  pNew [(.int .i64 (.ofNat 0)), (.int .i64 (.ofNat 0)), (.int .i64 (.ofNat 0)), (.int .i64 (.ofNat 0)), .nilsl, .nilsl, .nilsl] H fun t4 H =>
  stK 7 H t4 t89 fun _ H =>
  guardA t90 true (pFa 1 t4 H fun t93 H =>
  ldK .none H t93 fun t94 H =>
  pEql t94 (.int .i64 (.ofNat 0)) H fun t95 H =>
  S207_27 call t90 t95 H) (S207_27 call t90 U H)) (pEql t15 (.int .i64 (.ofNat 23)) H fun t98 H =>
  onBool t98 (pFa 1 t3 H fun t101 H =>
  ldK .none H t101 fun t102 H =>
  pC call 272 [t0, t102] H fun t103 H =>
  pExt t103 0 H fun t104 H =>
  pExt t103 1 H fun t105 H =>
  pNew [(.int .i64 (.ofNat 0)), (.int .i64 (.ofNat 0)), (.int .i64 (.ofNat 0)), (.int .i64 (.ofNat 0)), .nilsl, .nilsl, .nilsl] H fun t6 H =>
  stK 7 H t6 t104 fun _ H =>
  guardA t105 true (pFa 1 t6 H fun t108 H =>
  ldK .none H t108 fun t109 H =>
  pEql t109 (.int .i64 (.ofNat 0)) H fun t110 H =>
  S207_29 call t6 t105 t110 H) (S207_29 call t6 t105 U H)) (pEql t15 (.int .i64 (.ofNat 36)) H fun t118 H =>
  onBool t118 (pFa 2 t3 H fun t121 H =>
  ldK .none H t121 fun t122 H =>
  pC call 272 [t0, t122] H fun t123 H =>
  pExt t123 0 H fun t124 H =>
  pExt t123 1 H fun t125 H =>
  pNew [(.int .i64 (.ofNat 0)), (.int .i64 (.ofNat 0)), (.int .i64 (.ofNat 0)), (.int .i64 (.ofNat 0)), .nilsl, .nilsl, .nilsl] H fun t8 H =>
  stK 7 H t8 t124 fun _ H =>
  some (t125, H)) (pEql t15 (.int .i64 (.ofNat 21)) H fun t128 H =>
  onBool t128 (pFa 4 t3 H fun t129 H =>
  ldK .none H t129 fun t130 H =>
  pGeq t130 (.int .i64 (.ofNat 0)) H fun t131 H =>
  some (t131, H)) (pEql t15 (.int .i64 (.ofNat 24)) H fun t133 H =>
  onBool t133 (pFa 3 t3 H fun t134 H =>
  ldK .none H t134 fun t135 H =>
  pGeq t135 (.int .i64 (.ofNat 0)) H fun t136 H =>
  some (t136, H)) (pEql t15 (.int .i64 (.ofNat 44)) H fun t138 H =>
  onBool t138 (pFa 1 t3 H fun t139 H =>
  ldK .none H t139 fun t140 H =>
  pGeq t140 (.int .i64 (.ofNat 1)) H fun t141 H =>
  guardA t141 true (pFa 1 t3 H fun t143 H =>
  ldK .none H t143 fun t144 H =>
  pLeq t144 (.int .i64 (.ofNat 6)) H fun t145 H =>
  S207_30 call t141 t145 H) (S207_30 call t141 U H)) (pEql t15 (.int .i64 (.ofNat 41)) H fun t148 H =>
  onBool t148 (pC call 279 [t0] H fun t150 H =>
  some (t150, H)) (some ((.bool true), H))))))))))))))
noncomputable def S207 : Ff := ⟨fun call l H => argA1 (fun t0 => S207_31 call t0 H) l⟩
/- (*gantline/verify.checker).kinds -/
noncomputable def S208_0 (_ : CallFn) (t86 t93 : AV) (H : AHeap) : R :=
  pPick t86 t93 (.bool false) H fun t94 H =>
  some (t94, H)
noncomputable def S208_1 (_ : CallFn) (t117 t122 : AV) (H : AHeap) : R :=
  pPick t117 t122 (.bool false) H fun t123 H =>
  some (t123, H)
noncomputable def S208_2 (_ : CallFn) (t164 t169 : AV) (H : AHeap) : R :=
  pPick t164 t169 (.bool false) H fun t170 H =>
  some (t170, H)
noncomputable def S208_3 (_ : CallFn) (t183 t188 : AV) (H : AHeap) : R :=
  pPick t183 t188 (.bool false) H fun t189 H =>
  some (t189, H)
noncomputable def S208_4 (_ : CallFn) (t198 t203 : AV) (H : AHeap) : R :=
  pPick t198 t203 (.bool false) H fun t204 H =>
  some (t204, H)
noncomputable def S208_5 (_ : CallFn) (t247 t257 : AV) (H : AHeap) : R :=
  pPick t247 t257 (.bool false) H fun t258 H =>
  some (t258, H)
noncomputable def S208_6 (call : CallFn) (t247 t251 t256 : AV) (H : AHeap) : R :=
  guardA t247 true (pPick t251 (.bool true) t256 H fun t257 H =>
  S208_5 call t247 t257 H) (S208_5 call t247 U H)
noncomputable def S208_7 (call : CallFn) (t1 t3 t247 t251 : AV) (H : AHeap) : R :=
  guardA t251 false (ldK .none H t1 fun t252 H =>
  pFa 3 t3 H fun t253 H =>
  ldK .none H t253 fun t254 H =>
  pN (aBsl 1 1 [(.int .i64 (.ofNat 0))] [(0, 1, t254)]) H fun t255 H =>
  pC call 280 [t252, (.bool false), t255] H fun t256 H =>
  S208_6 call t247 t251 t256 H) (S208_6 call t247 t251 U H)
noncomputable def S208_8 (call : CallFn) (t1 t3 t4 t174 t176 : AV) (H : AHeap) : R :=
  pPick t174 (.bool true) t176 H fun t177 H =>
  onBool t177 (ldK .none H t1 fun t178 H =>
  pFa 1 t3 H fun t179 H =>
  ldK .none H t179 fun t180 H =>
  pN (aBsl 1 1 [(.int .i64 (.ofNat 0))] [(0, 1, t180)]) H fun t181 H =>
  pC call 280 [t178, (.bool true), t181] H fun t182 H =>
  guardA t182 true (ldK .none H t1 fun t184 H =>
  pFa 2 t3 H fun t185 H =>
  ldK .none H t185 fun t186 H =>
  pN (aBsl 1 1 [(.int .i64 (.ofNat 0))] [(0, 1, t186)]) H fun t187 H =>
  pC call 280 [t184, (.bool false), t187] H fun t188 H =>
  S208_3 call t182 t188 H) (S208_3 call t182 U H)) (pEql t4 (.int .i64 (.ofNat 33)) H fun t192 H =>
  onBool t192 (ldK .none H t1 fun t193 H =>
  pFa 1 t3 H fun t194 H =>
  ldK .none H t194 fun t195 H =>
  pN (aBsl 1 1 [(.int .i64 (.ofNat 0))] [(0, 1, t195)]) H fun t196 H =>
  pC call 280 [t193, (.bool false), t196] H fun t197 H =>
  guardA t197 true (ldK .none H t1 fun t199 H =>
  pFa 2 t3 H fun t200 H =>
  ldK .none H t200 fun t201 H =>
  pN (aBsl 1 1 [(.int .i64 (.ofNat 0))] [(0, 1, t201)]) H fun t202 H =>
  pC call 280 [t199, (.bool true), t202] H fun t203 H =>
  S208_4 call t197 t203 H) (S208_4 call t197 U H)) (pEql t4 (.int .i64 (.ofNat 34)) H fun t207 H =>
  onBool t207 (ldK .none H t1 fun t208 H =>
  ldK .none H t1 fun t209 H =>
  pO (aNil t209) H fun t210 H =>
  pFa 0 t210 H fun t211 H =>
  pFa 1 t211 H fun t212 H =>
  ldK .none H t212 fun t213 H =>
  pFa 2 t3 H fun t214 H =>
  ldK .none H t214 fun t215 H =>
  pIa 1 t213 t215 H fun t216 H =>
  ldK .none H t216 fun t217 H =>
  pFa 1 t3 H fun t218 H =>
  ldK .none H t218 fun t219 H =>
  pN (aBsl 1 1 [(.int .i64 (.ofNat 0))] [(0, 1, t219)]) H fun t220 H =>
  pC call 280 [t208, t217, t220] H fun t221 H =>
  some (t221, H)) (pEql t4 (.int .i64 (.ofNat 35)) H fun t224 H =>
  onBool t224 (ldK .none H t1 fun t225 H =>
  ldK .none H t1 fun t226 H =>
  pO (aNil t226) H fun t227 H =>
  pFa 0 t227 H fun t228 H =>
  pFa 1 t228 H fun t229 H =>
  ldK .none H t229 fun t230 H =>
  pFa 1 t3 H fun t231 H =>
  ldK .none H t231 fun t232 H =>
  pIa 1 t230 t232 H fun t233 H =>
  ldK .none H t233 fun t234 H =>
  pFa 2 t3 H fun t235 H =>
  ldK .none H t235 fun t236 H =>
  pN (aBsl 1 1 [(.int .i64 (.ofNat 0))] [(0, 1, t236)]) H fun t237 H =>
  pC call 280 [t225, t234, t237] H fun t238 H =>
  some (t238, H)) (pEql t4 (.int .i64 (.ofNat 39)) H fun t241 H =>
  onBool t241 (ldK .none H t1 fun t242 H =>
  pFa 2 t3 H fun t243 H =>
  ldK .none H t243 fun t244 H =>
  pN (aBsl 1 1 [(.int .i64 (.ofNat 0))] [(0, 1, t244)]) H fun t245 H =>
  pC call 280 [t242, (.bool true), t245] H fun t246 H =>
  guardA t246 true (pFa 3 t3 H fun t248 H =>
  ldK .none H t248 fun t249 H =>
  pEql t249 (.int .i64 (.negSucc 0)) H fun t250 H =>
  S208_7 call t1 t3 t246 t250 H) (S208_7 call t1 t3 t246 U H)) (pEql t4 (.int .i64 (.ofNat 41)) H fun t261 H =>
  onBool t261 (ldK .none H t1 fun t263 H =>
  pC call 273 [t263] H fun t264 H =>
  pExt t264 0 H fun t265 H =>
  pExt t264 1 H fun _ H =>
  pC call 274 [t265, (.fn 281 [] [t1])] H fun t269 H =>
  pO (aUn .not t269) H fun t270 H =>
  some (t270, H)) (ldK .none H t1 fun t271 H =>
  pC call 282 [t271] H fun t272 H =>
  some (t272, H)))))))
noncomputable def S208_9 (call : CallFn) (t1 t3 t4 t147 t149 : AV) (H : AHeap) : R :=
  pPick t147 (.bool true) t149 H fun t150 H =>
  onBool t150 (ldK .none H t1 fun t151 H =>
  pFa 1 t3 H fun t152 H =>
  ldK .none H t152 fun t153 H =>
  pN (aBsl 1 1 [(.int .i64 (.ofNat 0))] [(0, 1, t153)]) H fun t154 H =>
  pC call 280 [t151, (.bool true), t154] H fun t155 H =>
  some (t155, H)) (pEql t4 (.int .i64 (.ofNat 30)) H fun t158 H =>
  onBool t158 (ldK .none H t1 fun t159 H =>
  pFa 2 t3 H fun t160 H =>
  ldK .none H t160 fun t161 H =>
  pN (aBsl 1 1 [(.int .i64 (.ofNat 0))] [(0, 1, t161)]) H fun t162 H =>
  pC call 280 [t159, (.bool true), t162] H fun t163 H =>
  guardA t163 true (ldK .none H t1 fun t165 H =>
  pFa 3 t3 H fun t166 H =>
  ldK .none H t166 fun t167 H =>
  pN (aBsl 1 1 [(.int .i64 (.ofNat 0))] [(0, 1, t167)]) H fun t168 H =>
  pC call 280 [t165, (.bool false), t168] H fun t169 H =>
  S208_2 call t163 t169 H) (S208_2 call t163 U H)) (pEql t4 (.int .i64 (.ofNat 31)) H fun t173 H =>
  guardA t173 false (pEql t4 (.int .i64 (.ofNat 32)) H fun t176 H =>
  S208_8 call t1 t3 t4 t173 t176 H) (S208_8 call t1 t3 t4 t173 U H)))
noncomputable def S208_10 (call : CallFn) (t1 t3 t4 t143 t145 : AV) (H : AHeap) : R :=
  pPick t143 (.bool true) t145 H fun t146 H =>
  guardA t146 false (pEql t4 (.int .i64 (.ofNat 38)) H fun t149 H =>
  S208_9 call t1 t3 t4 t146 t149 H) (S208_9 call t1 t3 t4 t146 U H)
noncomputable def S208_11 (call : CallFn) (t1 t3 t4 t139 t141 : AV) (H : AHeap) : R :=
  pPick t139 (.bool true) t141 H fun t142 H =>
  guardA t142 false (pEql t4 (.int .i64 (.ofNat 24)) H fun t145 H =>
  S208_10 call t1 t3 t4 t142 t145 H) (S208_10 call t1 t3 t4 t142 U H)
noncomputable def S208_12 (call : CallFn) (t1 t3 t4 t127 t129 : AV) (H : AHeap) : R :=
  pPick t127 (.bool true) t129 H fun t130 H =>
  onBool t130 (ldK .none H t1 fun t131 H =>
  pFa 2 t3 H fun t132 H =>
  ldK .none H t132 fun t133 H =>
  pN (aBsl 1 1 [(.int .i64 (.ofNat 0))] [(0, 1, t133)]) H fun t134 H =>
  pC call 280 [t131, (.bool true), t134] H fun t135 H =>
  some (t135, H)) (pEql t4 (.int .i64 (.ofNat 28)) H fun t138 H =>
  guardA t138 false (pEql t4 (.int .i64 (.ofNat 29)) H fun t141 H =>
  S208_11 call t1 t3 t4 t138 t141 H) (S208_11 call t1 t3 t4 t138 U H))
noncomputable def S208_13 (call : CallFn) (t1 t3 t4 t108 t110 : AV) (H : AHeap) : R :=
  pPick t108 (.bool true) t110 H fun t111 H =>
  onBool t111 (ldK .none H t1 fun t112 H =>
  pFa 1 t3 H fun t113 H =>
  ldK .none H t113 fun t114 H =>
  pN (aBsl 1 1 [(.int .i64 (.ofNat 0))] [(0, 1, t114)]) H fun t115 H =>
  pC call 280 [t112, (.bool true), t115] H fun t116 H =>
  guardA t116 true (ldK .none H t1 fun t118 H =>
  pFa 3 t3 H fun t119 H =>
  ldK .none H t119 fun t120 H =>
  pN (aBsl 1 1 [(.int .i64 (.ofNat 0))] [(0, 1, t120)]) H fun t121 H =>
  pC call 280 [t118, (.bool false), t121] H fun t122 H =>
  S208_1 call t116 t122 H) (S208_1 call t116 U H)) (pEql t4 (.int .i64 (.ofNat 27)) H fun t126 H =>
  guardA t126 false (pEql t4 (.int .i64 (.ofNat 21)) H fun t129 H =>
  S208_12 call t1 t3 t4 t126 t129 H) (S208_12 call t1 t3 t4 t126 U H))
noncomputable def S208_14 (call : CallFn) (t1 t3 t4 t65 t67 : AV) (H : AHeap) : R :=
  pPick t65 t67 (.bool false) H fun t68 H =>
  onBool t68 (ldK .none H t1 fun t69 H =>
  pFa 1 t3 H fun t70 H =>
  ldK .none H t70 fun t71 H =>
  pFa 2 t3 H fun t72 H =>
  ldK .none H t72 fun t73 H =>
  pFa 3 t3 H fun t74 H =>
  ldK .none H t74 fun t75 H =>
  pN (aBsl 1 3 [(.int .i64 (.ofNat 0))] [(0, 1, t71), (1, 1, t73), (2, 1, t75)]) H fun t76 H =>
  pC call 280 [t69, (.bool false), t76] H fun t77 H =>
  some (t77, H)) (pEql t4 (.int .i64 (.ofNat 16)) H fun t80 H =>
  onBool t80 (ldK .none H t1 fun t81 H =>
  pFa 1 t3 H fun t82 H =>
  ldK .none H t82 fun t83 H =>
  pN (aBsl 1 1 [(.int .i64 (.ofNat 0))] [(0, 1, t83)]) H fun t84 H =>
  pC call 280 [t81, (.bool false), t84] H fun t85 H =>
  guardA t85 true (ldK .none H t1 fun t87 H =>
  pFa 2 t3 H fun t88 H =>
  ldK .none H t88 fun t89 H =>
  pFa 3 t3 H fun t90 H =>
  ldK .none H t90 fun t91 H =>
  pN (aBsl 1 2 [(.int .i64 (.ofNat 0))] [(0, 1, t89), (1, 1, t91)]) H fun t92 H =>
  pC call 280 [t87, (.bool true), t92] H fun t93 H =>
  S208_0 call t85 t93 H) (S208_0 call t85 U H)) (pEql t4 (.int .i64 (.ofNat 17)) H fun t97 H =>
  onBool t97 (ldK .none H t1 fun t98 H =>
  pFa 1 t3 H fun t99 H =>
  ldK .none H t99 fun t100 H =>
  pFa 2 t3 H fun t101 H =>
  ldK .none H t101 fun t102 H =>
  pN (aBsl 1 2 [(.int .i64 (.ofNat 0))] [(0, 1, t100), (1, 1, t102)]) H fun t103 H =>
  pC call 280 [t98, (.bool false), t103] H fun t104 H =>
  some (t104, H)) (pEql t4 (.int .i64 (.ofNat 26)) H fun t107 H =>
  guardA t107 false (pEql t4 (.int .i64 (.ofNat 37)) H fun t110 H =>
  S208_13 call t1 t3 t4 t107 t110 H) (S208_13 call t1 t3 t4 t107 U H))))
noncomputable def S208_15 (call : CallFn) (t1 t3 t4 t53 t55 : AV) (H : AHeap) : R :=
  pPick t53 (.bool true) t55 H fun t56 H =>
  onBool t56 (ldK .none H t1 fun t57 H =>
  pFa 1 t3 H fun t58 H =>
  ldK .none H t58 fun t59 H =>
  pN (aBsl 1 1 [(.int .i64 (.ofNat 0))] [(0, 1, t59)]) H fun t60 H =>
  pC call 280 [t57, (.bool true), t60] H fun t61 H =>
  some (t61, H)) (pGeq t4 (.int .i64 (.ofNat 3)) H fun t64 H =>
  guardA t64 true (pLeq t4 (.int .i64 (.ofNat 15)) H fun t67 H =>
  S208_14 call t1 t3 t4 t64 t67 H) (S208_14 call t1 t3 t4 t64 U H))
noncomputable def S208_16 (call : CallFn) (t1 t3 t4 t49 t51 : AV) (H : AHeap) : R :=
  pPick t49 (.bool true) t51 H fun t52 H =>
  guardA t52 false (pEql t4 (.int .i64 (.ofNat 40)) H fun t55 H =>
  S208_15 call t1 t3 t4 t52 t55 H) (S208_15 call t1 t3 t4 t52 U H)
noncomputable def S208_17 (call : CallFn) (t1 t3 t4 t20 t22 : AV) (H : AHeap) : R :=
  pPick t20 (.bool true) t22 H fun t23 H =>
  onBool t23 (ldK .none H t1 fun t24 H =>
  pFa 1 t3 H fun t25 H =>
  ldK .none H t25 fun t26 H =>
  pN (aBsl 1 1 [(.int .i64 (.ofNat 0))] [(0, 1, t26)]) H fun t27 H =>
  pC call 280 [t24, (.bool false), t27] H fun t28 H =>
  some (t28, H)) (pEql t4 (.int .i64 (.ofNat 1)) H fun t31 H =>
  onBool t31 (ldK .none H t1 fun t32 H =>
  ldK .none H t1 fun t33 H =>
  pO (aNil t33) H fun t34 H =>
  pFa 6 t34 H fun t35 H =>
  pFa 4 t35 H fun t36 H =>
  ldK .none H t36 fun t37 H =>
  pFa 2 t3 H fun t38 H =>
  ldK .none H t38 fun t39 H =>
  pIa 1 t37 t39 H fun t40 H =>
  ldK .none H t40 fun t41 H =>
  pFa 1 t3 H fun t42 H =>
  ldK .none H t42 fun t43 H =>
  pN (aBsl 1 1 [(.int .i64 (.ofNat 0))] [(0, 1, t43)]) H fun t44 H =>
  pC call 280 [t32, t41, t44] H fun t45 H =>
  some (t45, H)) (pEql t4 (.int .i64 (.ofNat 2)) H fun t48 H =>
  guardA t48 false (pEql t4 (.int .i64 (.ofNat 25)) H fun t51 H =>
  S208_16 call t1 t3 t4 t48 t51 H) (S208_16 call t1 t3 t4 t48 U H)))
noncomputable def S208_18 (call : CallFn) (t1 t3 t4 t16 t18 : AV) (H : AHeap) : R :=
  pPick t16 (.bool true) t18 H fun t19 H =>
  guardA t19 false (pEql t4 (.int .i64 (.ofNat 42)) H fun t22 H =>
  S208_17 call t1 t3 t4 t19 t22 H) (S208_17 call t1 t3 t4 t19 U H)
noncomputable def S208_19 (call : CallFn) (t0 : AV) (H : AHeap) : R :=
  pBox t0 H fun t1 H =>
  ldK .none H t1 fun t7 H =>
  pO (aNil t7) H fun t8 H =>
  pFa 17 t8 H fun t9 H =>
  ldK (.some 5) H t9 fun t10 H =>
  pNew [(.int .i64 (.ofNat 0)), (.int .i64 (.ofNat 0)), (.int .i64 (.ofNat 0)), (.int .i64 (.ofNat 0)), (.int .i64 (.ofNat 0))] H fun t3 H =>
  stK 5 H t3 t10 fun _ H =>
  pFa 0 t3 H fun t11 H =>
  ldK .none H t11 fun t12 H =>
  pEql t12 (.int .i64 (.ofNat 0)) H fun t15 H =>
  guardA t15 false (pEql t12 (.int .i64 (.ofNat 19)) H fun t18 H =>
  S208_18 call t1 t3 t12 t15 t18 H) (S208_18 call t1 t3 t12 t15 U H)
noncomputable def S208 : Ff := ⟨fun call l H => argA1 (fun t0 => S208_19 call t0 H) l⟩
/- (*gantline/verify.checker).on -/
noncomputable def S209_0 (_ : CallFn) (t42 : AV) (H : AHeap) : R :=
  onBool t42 (some ((.bool true), H)) (some ((.bool false), H))
noncomputable def S209_1 (call : CallFn) (t0 : AV) (H : AHeap) : R :=
  pO (aNil t0) H fun t26 H =>
  pFa 16 t26 H fun t27 H =>
  ldK .none H t27 fun t28 H =>
  pO (aNil t0) H fun t30 H =>
  pFa 6 t30 H fun t31 H =>
  pFa 5 t31 H fun t32 H =>
  ldK .none H t32 fun t33 H =>
  pO (aLen .sl H t33) H fun t34 H =>
  pSub t34 (.int .i64 (.ofNat 1)) H fun t35 H =>
  pLss t28 t35 H fun t36 H =>
  onBool t36 (some ((.bool true), H)) (pO (aNil t0) H fun t38 H =>
  pFa 17 t38 H fun t39 H =>
  pFa 0 t39 H fun t40 H =>
  ldK .none H t40 fun t41 H =>
  pEql t41 (.int .i64 (.ofNat 18)) H fun t43 H =>
  onBool t43 (S209_0 call t43 H) (pEql t41 (.int .i64 (.ofNat 22)) H fun t44 H =>
  onBool t44 (S209_0 call t44 H) (pEql t41 (.int .i64 (.ofNat 44)) H fun t45 H =>
  onBool t45 (S209_0 call t45 H) (pEql t41 (.int .i64 (.ofNat 41)) H fun t46 H =>
  S209_0 call t46 H))))
noncomputable def S209_3 (_ : CallFn) (q0 : AV → AV → AV → AV → AHeap → R) (t0 t6 t7 t8 t14 t22 : AV) (H : AHeap) : R :=
  pPick t14 (.bool true) t22 H fun t23 H =>
  onBool t23 (some ((.bool false), H)) (pAdd t8 (.int .i64 (.ofNat 1)) H fun t24 H =>
  q0 t0 t6 t7 t24 H)
noncomputable def S209_2 (call : CallFn) (n : Nat) : AV → AV → AV → AV → AHeap → R :=
  Nat.rec (motive := fun _ => AV → AV → AV → AV → AHeap → R) (fun _ _ _ _ _ => none) (fun _ q0 t0 t6 t7 t8 H => pLss t8 t7 H fun t9 H =>
  onBool t9 (pIa 1 t6 t8 H fun t10 H =>
  ldK .none H t10 fun t11 H =>
  pLss t11 (.int .i64 (.ofNat 0)) H fun t13 H =>
  guardA t13 false (pO (aNil t0) H fun t17 H =>
  pFa 6 t17 H fun t18 H =>
  pFa 5 t18 H fun t19 H =>
  ldK .none H t19 fun t20 H =>
  pO (aLen .sl H t20) H fun t21 H =>
  pGeq t11 t21 H fun t22 H =>
  S209_3 call q0 t0 t6 t7 t8 t13 t22 H) (S209_3 call q0 t0 t6 t7 t8 t13 U H)) (S209_1 call t0 H)) n
noncomputable def S209_4 (call : CallFn) (t0 : AV) (H : AHeap) : R :=
  pC call 283 [t0] H fun t6 H =>
  pO (aLen .sl H t6) H fun t7 H =>
  S209_2 call 1000000 t0 t6 t7 (.int .i64 (.ofNat 0)) H
noncomputable def S209 : Ff := ⟨fun call l H => argA1 (fun t0 => S209_4 call t0 H) l⟩
/- (*gantline/verify.checker).back -/
noncomputable def S210_1 (_ : CallFn) (q0 : AV → AV → AV → AV → AHeap → R) (t0 t6 t7 t8 t18 t28 : AV) (H : AHeap) : R :=
  pPick t18 t28 (.bool false) H fun t29 H =>
  onBool t29 (some ((.bool false), H)) (pAdd t8 (.int .i64 (.ofNat 1)) H fun t30 H =>
  q0 t0 t6 t7 t30 H)
noncomputable def S210_0 (call : CallFn) (n : Nat) : AV → AV → AV → AV → AHeap → R :=
  Nat.rec (motive := fun _ => AV → AV → AV → AV → AHeap → R) (fun _ _ _ _ _ => none) (fun _ q0 t0 t6 t7 t8 H => pLss t8 t7 H fun t9 H =>
  onBool t9 (pIa 1 t6 t8 H fun t10 H =>
  ldK .none H t10 fun t11 H =>
  pO (aNil t0) H fun t14 H =>
  pFa 16 t14 H fun t15 H =>
  ldK .none H t15 fun t16 H =>
  pLeq t11 t16 H fun t17 H =>
  guardA t17 true (pO (aNil t0) H fun t20 H =>
  pFa 6 t20 H fun t21 H =>
  pFa 5 t21 H fun t22 H =>
  ldK .none H t22 fun t23 H =>
  pIa 5 t23 t11 H fun t25 H =>
  pFa 0 t25 H fun t26 H =>
  ldK .none H t26 fun t27 H =>
  pNeq t27 (.int .i64 (.ofNat 43)) H fun t28 H =>
  S210_1 call q0 t0 t6 t7 t8 t17 t28 H) (S210_1 call q0 t0 t6 t7 t8 t17 U H)) (some ((.bool true), H))) n
noncomputable def S210_2 (call : CallFn) (t0 : AV) (H : AHeap) : R :=
  pC call 283 [t0] H fun t6 H =>
  pO (aLen .sl H t6) H fun t7 H =>
  S210_0 call 1000000 t0 t6 t7 (.int .i64 (.ofNat 0)) H
noncomputable def S210 : Ff := ⟨fun call l H => argA1 (fun t0 => S210_2 call t0 H) l⟩
/- (*gantline/verify.checker).bare -/
noncomputable def S211_0 (call : CallFn) (t0 : AV) (H : AHeap) : R :=
  pO (aNil t0) H fun t35 H =>
  pFa 6 t35 H fun t36 H =>
  ldK (.some 7) H t36 fun t37 H =>
  pO (aNil t0) H fun t39 H =>
  pFa 14 t39 H fun t40 H =>
  ldK .none H t40 fun t41 H =>
  pO (aNil t0) H fun t43 H =>
  pFa 16 t43 H fun t44 H =>
  ldK .none H t44 fun t45 H =>
  pC call 285 [t37, t41, t45] H fun t46 H =>
  some (t46, H)
noncomputable def S211_1 (call : CallFn) (t0 t9 t15 : AV) (H : AHeap) : R :=
  pPick t9 t15 (.bool false) H fun t16 H =>
  onBool t16 (some ((.bool true), H)) (pO (aNil t0) H fun t18 H =>
  pFa 14 t18 H fun t19 H =>
  ldK .none H t19 fun t20 H =>
  pO (aEq false .sl t20 .nilsl) H fun t21 H =>
  onBool t21 (pO (aNil t0) H fun t24 H =>
  pFa 0 t24 H fun t25 H =>
  ldK (.some 6) H t25 fun t26 H =>
  pO (aNil t0) H fun t28 H =>
  pFa 6 t28 H fun t29 H =>
  ldK (.some 7) H t29 fun t30 H =>
  pC call 284 [t26, t30] H fun t31 H =>
  pO (aNil t0) H fun t32 H =>
  pFa 14 t32 H fun t33 H =>
  stK 1 H t33 t31 fun _ H =>
  S211_0 call t0 H) (S211_0 call t0 H))
noncomputable def S211_2 (call : CallFn) (t0 : AV) (H : AHeap) : R :=
  pO (aNil t0) H fun t4 H =>
  pFa 17 t4 H fun t5 H =>
  pFa 0 t5 H fun t6 H =>
  ldK .none H t6 fun t7 H =>
  pNeq t7 (.int .i64 (.ofNat 29)) H fun t8 H =>
  guardA t8 true (pO (aNil t0) H fun t11 H =>
  pFa 17 t11 H fun t12 H =>
  pFa 0 t12 H fun t13 H =>
  ldK .none H t13 fun t14 H =>
  pNeq t14 (.int .i64 (.ofNat 32)) H fun t15 H =>
  S211_1 call t0 t8 t15 H) (S211_1 call t0 t8 U H)
noncomputable def S211 : Ff := ⟨fun call l H => argA1 (fun t0 => S211_2 call t0 H) l⟩
/- (*gantline/sched.Table).offered -/
noncomputable def S214_0 (_ : CallFn) (t14 t15 t66 t74 : AV) (H : AHeap) : R :=
  pPick t66 t74 (.bool false) H fun t75 H =>
  pFa 3 t15 H fun t76 H =>
  stK 1 H t76 t75 fun _ H =>
  ldK (.some 4) H t15 fun t77 H =>
  stK 4 H t14 t77 fun _ H =>
  ob (allM (fun o => o) [aLoad (.some 4) H t14]) fun vs => some (resV vs, H)
noncomputable def S214_1 (call : CallFn) (t14 t15 t66 t67 t69 t73 : AV) (H : AHeap) : R :=
  guardA t66 true (pC call 255 [t67, t69, t73] H fun t74 H =>
  S214_0 call t14 t15 t66 t74 H) (S214_0 call t14 t15 t66 U H)
noncomputable def S214_2 (call : CallFn) (t14 t15 t66 t67 t69 t72 : AV) (H : AHeap) : R :=
  guardA t66 true (ldK .none H t72 fun t73 H =>
  S214_1 call t14 t15 t66 t67 t69 t73 H) (S214_1 call t14 t15 t66 t67 t69 U H)
noncomputable def S214_3 (call : CallFn) (t14 t15 t66 t67 t69 t70 t71 : AV) (H : AHeap) : R :=
  guardA t66 true (pIa 1 t70 t71 H fun t72 H =>
  S214_2 call t14 t15 t66 t67 t69 t72 H) (S214_2 call t14 t15 t66 t67 t69 U H)
noncomputable def S214_4 (call : CallFn) (t6 t14 t15 t66 t67 t69 t70 : AV) (H : AHeap) : R :=
  guardA t66 true (S214_3 call t14 t15 t66 t67 t69 t70 t6 H) (S214_3 call t14 t15 t66 t67 t69 t70 U H)
noncomputable def S214_5 (call : CallFn) (t6 t14 t15 t18 t66 t67 t69 : AV) (H : AHeap) : R :=
  guardA t66 true (S214_4 call t6 t14 t15 t66 t67 t69 t18 H) (S214_4 call t6 t14 t15 t66 t67 t69 U H)
noncomputable def S214_6 (call : CallFn) (t6 t14 t15 t18 t66 t67 t68 : AV) (H : AHeap) : R :=
  guardA t66 true (ldK .none H t68 fun t69 H =>
  S214_5 call t6 t14 t15 t18 t66 t67 t69 H) (S214_5 call t6 t14 t15 t18 t66 t67 U H)
noncomputable def S214_7 (call : CallFn) (t6 t14 t15 t18 t66 t67 : AV) (H : AHeap) : R :=
  guardA t66 true (pFa 2 t15 H fun t68 H =>
  S214_6 call t6 t14 t15 t18 t66 t67 t68 H) (S214_6 call t6 t14 t15 t18 t66 t67 U H)
noncomputable def S214_8 (call : CallFn) (t1 t6 t14 t15 t18 t60 t64 : AV) (H : AHeap) : R :=
  pPick t60 t64 (.bool false) H fun t65 H =>
  guardA t65 true (S214_7 call t6 t14 t15 t18 t65 t1 H) (S214_7 call t6 t14 t15 t18 t65 U H)
noncomputable def S214_9 (call : CallFn) (t1 t6 t14 t15 t18 t60 t61 t63 : AV) (H : AHeap) : R :=
  guardA t60 true (pLss t61 t63 H fun t64 H =>
  S214_8 call t1 t6 t14 t15 t18 t60 t64 H) (S214_8 call t1 t6 t14 t15 t18 t60 U H)
noncomputable def S214_10 (call : CallFn) (t1 t6 t14 t15 t18 t60 t61 t62 : AV) (H : AHeap) : R :=
  guardA t60 true (pO (aLen .sl H t62) H fun t63 H =>
  S214_9 call t1 t6 t14 t15 t18 t60 t61 t63 H) (S214_9 call t1 t6 t14 t15 t18 t60 t61 U H)
noncomputable def S214_11 (call : CallFn) (t1 t6 t14 t15 t18 t60 t61 : AV) (H : AHeap) : R :=
  guardA t60 true (S214_10 call t1 t6 t14 t15 t18 t60 t61 t18 H) (S214_10 call t1 t6 t14 t15 t18 t60 t61 U H)
noncomputable def S214_12 (_ : CallFn) (t14 t15 t35 t39 : AV) (H : AHeap) : R :=
  pPick t35 (.bool true) t39 H fun t40 H =>
  pFa 3 t15 H fun t41 H =>
  stK 1 H t41 t40 fun _ H =>
  ldK (.some 4) H t15 fun t42 H =>
  stK 4 H t14 t42 fun _ H =>
  ob (allM (fun o => o) [aLoad (.some 4) H t14]) fun vs => some (resV vs, H)
noncomputable def S214_13 (call : CallFn) (t0 t1 t2 t6 t14 t15 t27 t29 : AV) (H : AHeap) : R :=
  pPick t27 t29 (.bool false) H fun t30 H =>
  onBool t30 (pFa 2 t15 H fun t32 H =>
  ldK .none H t32 fun t33 H =>
  pC call 255 [t1, t33, (.bool true)] H fun t34 H =>
  guardA t34 false (pFa 2 t15 H fun t37 H =>
  ldK .none H t37 fun t38 H =>
  pC call 255 [t1, t38, (.bool false)] H fun t39 H =>
  S214_12 call t14 t15 t34 t39 H) (S214_12 call t14 t15 t34 U H)) (pC call 89 [t2] H fun t45 H =>
  pExt t45 0 H fun t46 H =>
  pExt t45 1 H fun _ H =>
  pNew [(.int .i64 (.ofNat 0)), (.int .i64 (.ofNat 0)), .nilsl] H fun t16 H =>
  stK 3 H t16 t46 fun _ H =>
  pO (aNil t0) H fun t49 H =>
  pFa 0 t49 H fun t50 H =>
  pFa 4 t50 H fun t51 H =>
  ldK .none H t51 fun t52 H =>
  pFa 0 t16 H fun t53 H =>
  ldK .none H t53 fun t54 H =>
  pIa 7 t52 t54 H fun t55 H =>
  pFa 4 t55 H fun t56 H =>
  ldK .none H t56 fun t57 H =>
  pGeq t6 (.int .i64 (.ofNat 0)) H fun t59 H =>
  guardA t59 true (S214_11 call t1 t6 t14 t15 t57 t59 t6 H) (S214_11 call t1 t6 t14 t15 t57 t59 U H))
noncomputable def S214_14 (call : CallFn) (t0 t1 t2 t3 t4 t5 t6 : AV) (H : AHeap) : R :=
  pNew [(.int .i64 (.ofNat 0)), (.bool false), (.int .i64 (.ofNat 0)), (.bool false)] H fun t14 H =>
  pC call 131 [t2, t5] H fun t23 H =>
  pO (someAgg (aFill [(.int .i64 (.ofNat 0)), (.bool false), (.int .i64 (.ofNat 0)), (.bool false)] [(0, 1, t3), (1, 1, t4), (2, 1, t23)])) H fun t24 H =>
  pNew [(.int .i64 (.ofNat 0)), (.bool false), (.int .i64 (.ofNat 0)), (.bool false)] H fun t15 H =>
  stK 4 H t15 t24 fun _ H =>
  pEql t6 (.int .i64 (.negSucc 0)) H fun t26 H =>
  guardA t26 true (pO (aUn .not t4) H fun t29 H =>
  S214_13 call t0 t1 t2 t6 t14 t15 t26 t29 H) (S214_13 call t0 t1 t2 t6 t14 t15 t26 U H)
noncomputable def S214 : Ff := ⟨fun call l H => argA7 (fun t0 t1 t2 t3 t4 t5 t6 => S214_14 call t0 t1 t2 t3 t4 t5 t6 H) l⟩
/- gantline/chans.Closed -/
noncomputable def S215_0 (_ : CallFn) (t15 t19 : AV) (H : AHeap) : R :=
  pPick t15 (.bool true) t19 H fun t20 H =>
  some (t20, H)
noncomputable def S215_1 (call : CallFn) (t0 t1 : AV) (H : AHeap) : R :=
  pC call 259 [t0, t1] H fun t10 H =>
  pExt t10 0 H fun t11 H =>
  pExt t10 1 H fun _ H =>
  pO (aUn .not t11) H fun t14 H =>
  guardA t14 false (pC call 258 [t0, t1, (.int .i64 (.ofNat 3))] H fun t18 H =>
  pNeq t18 (.int .i64 (.ofNat 0)) H fun t19 H =>
  S215_0 call t14 t19 H) (S215_0 call t14 U H)
noncomputable def S215 : Ff := ⟨fun call l H => argA2 (fun t0 t1 => S215_1 call t0 t1 H) l⟩
/- gantline/chans.Count -/
noncomputable def S216_0 (call : CallFn) (t0 t1 : AV) (H : AHeap) : R :=
  pC call 259 [t0, t1] H fun t10 H =>
  pExt t10 0 H fun t11 H =>
  pExt t10 1 H fun _ H =>
  pO (aUn .not t11) H fun t14 H =>
  onBool t14 (some ((.int .i64 (.ofNat 0)), H)) (pC call 258 [t0, t1, (.int .i64 (.ofNat 1))] H fun t17 H =>
  some (t17, H))
noncomputable def S216 : Ff := ⟨fun call l H => argA2 (fun t0 t1 => S216_0 call t0 t1 H) l⟩
/- gantline/chans.Room -/
noncomputable def S217_0 (call : CallFn) (t0 t1 : AV) (H : AHeap) : R :=
  pC call 259 [t0, t1] H fun t10 H =>
  pExt t10 0 H fun t11 H =>
  pExt t10 1 H fun _ H =>
  pO (aUn .not t11) H fun t14 H =>
  onBool t14 (some ((.int .i64 (.ofNat 0)), H)) (pC call 258 [t0, t1, (.int .i64 (.ofNat 0))] H fun t17 H =>
  some (t17, H))
noncomputable def S217 : Ff := ⟨fun call l H => argA2 (fun t0 t1 => S217_0 call t0 t1 H) l⟩
/- (*gantline/sched.Table).partners -/
noncomputable def S218_1 (_ : CallFn) (q0 : AV → AV → AV → AV → AV → AV → AV → AV → AHeap → R) (t0 t1 t2 t7 t9 t20 t21 t22 : AV) (H : AHeap) : R :=
  pAdd t22 (.int .i64 (.ofNat 1)) H fun t88 H =>
  q0 t0 t1 t2 t7 t9 t20 t21 t88 H
noncomputable def S218_3 (_ : CallFn) (q1 : AV → AV → AV → AV → AV → AV → AV → AV → AV → AV → AV → AV → AHeap → R) (t0 t1 t2 t7 t9 t11 t20 t21 t22 t56 t57 t58 : AV) (H : AHeap) : R :=
  pAdd t58 (.int .i64 (.ofNat 1)) H fun t87 H =>
  q1 t0 t1 t2 t7 t9 t11 t20 t21 t22 t56 t57 t87 H
noncomputable def S218_4 (call : CallFn) (q1 : AV → AV → AV → AV → AV → AV → AV → AV → AV → AV → AV → AV → AHeap → R) (t0 t1 t2 t7 t9 t11 t18 t20 t21 t22 t56 t57 t58 t71 t76 : AV) (H : AHeap) : R :=
  pPick t71 t76 (.bool false) H fun t77 H =>
  onBool t77 (pFa 0 t7 H fun t79 H =>
  ldK .none H t79 fun t80 H =>
  pFa 0 t18 H fun t82 H =>
  ldK .none H t82 fun t83 H =>
  pO (someAgg (aFill [(.int .i64 (.ofNat 0)), (.int .i64 (.ofNat 0)), (.int .i64 (.ofNat 0))] [(0, 1, t80), (1, 1, t11), (2, 1, t83)])) H fun t84 H =>
  pN (aBsl 3 1 [(.int .i64 (.ofNat 0)), (.int .i64 (.ofNat 0)), (.int .i64 (.ofNat 0))] [(0, 3, t84)]) H fun t85 H =>
  pW (aApp 3 24 H t9 t85) fun t86 H =>
  S218_3 call q1 t0 t1 t2 t7 t86 t11 t20 t21 t22 t56 t57 t58 H) (S218_3 call q1 t0 t1 t2 t7 t9 t11 t20 t21 t22 t56 t57 t58 H)
noncomputable def S218_5 (call : CallFn) (q1 : AV → AV → AV → AV → AV → AV → AV → AV → AV → AV → AV → AV → AHeap → R) (t0 t1 t2 t7 t9 t11 t18 t20 t21 t22 t56 t57 t58 t64 t69 : AV) (H : AHeap) : R :=
  pPick t64 t69 (.bool false) H fun t70 H =>
  guardA t70 true (pFa 1 t18 H fun t72 H =>
  ldK .none H t72 fun t73 H =>
  pFa 1 t7 H fun t74 H =>
  ldK .none H t74 fun t75 H =>
  pO (aEq true .bool t73 t75) H fun t76 H =>
  S218_4 call q1 t0 t1 t2 t7 t9 t11 t18 t20 t21 t22 t56 t57 t58 t70 t76 H) (S218_4 call q1 t0 t1 t2 t7 t9 t11 t18 t20 t21 t22 t56 t57 t58 t70 U H)
noncomputable def S218_2 (call : CallFn) (q0 : AV → AV → AV → AV → AV → AV → AV → AV → AHeap → R) (n : Nat) : AV → AV → AV → AV → AV → AV → AV → AV → AV → AV → AV → AV → AHeap → R :=
  Nat.rec (motive := fun _ => AV → AV → AV → AV → AV → AV → AV → AV → AV → AV → AV → AV → AHeap → R) (fun _ _ _ _ _ _ _ _ _ _ _ _ _ => none) (fun _ q1 t0 t1 t2 t7 t9 t11 t20 t21 t22 t56 t57 t58 H => pLss t58 t57 H fun t59 H =>
  onBool t59 (pIa 4 t56 t58 H fun t60 H =>
  ldK (.some 4) H t60 fun t61 H =>
  pNew [(.int .i64 (.ofNat 0)), (.bool false), (.int .i64 (.ofNat 0)), (.bool false)] H fun t18 H =>
  stK 4 H t18 t61 fun _ H =>
  pFa 3 t18 H fun t62 H =>
  ldK .none H t62 fun t63 H =>
  guardA t63 true (pFa 2 t18 H fun t65 H =>
  ldK .none H t65 fun t66 H =>
  pFa 2 t7 H fun t67 H =>
  ldK .none H t67 fun t68 H =>
  pEql t66 t68 H fun t69 H =>
  S218_5 call q1 t0 t1 t2 t7 t9 t11 t18 t20 t21 t22 t56 t57 t58 t63 t69 H) (S218_5 call q1 t0 t1 t2 t7 t9 t11 t18 t20 t21 t22 t56 t57 t58 t63 U H)) (S218_1 call q0 t0 t1 t2 t7 t9 t20 t21 t22 H)) n
noncomputable def S218_6 (call : CallFn) (q0 : AV → AV → AV → AV → AV → AV → AV → AV → AHeap → R) (t0 t1 t2 t7 t9 t11 t12 t13 t20 t21 t22 t44 t46 : AV) (H : AHeap) : R :=
  pPick t44 (.bool true) t46 H fun t47 H =>
  onBool t47 (S218_1 call q0 t0 t1 t2 t7 t9 t20 t21 t22 H) (ldK (.some 5) H t13 fun t52 H =>
  pC call 147 [t0, t1, t12, t52] H fun t53 H =>
  pExt t53 0 H fun t54 H =>
  pExt t53 1 H fun _ H =>
  pO (aLen .sl H t54) H fun t57 H =>
  S218_2 call q0 1000000 t0 t1 t2 t7 t9 t11 t20 t21 t22 t54 t57 (.int .i64 (.ofNat 0)) H)
noncomputable def S218_0 (call : CallFn) (n : Nat) : AV → AV → AV → AV → AV → AV → AV → AV → AHeap → R :=
  Nat.rec (motive := fun _ => AV → AV → AV → AV → AV → AV → AV → AV → AHeap → R) (fun _ _ _ _ _ _ _ _ _ => none) (fun _ q0 t0 t1 t2 t7 t9 t20 t21 t22 H => pLss t22 t21 H fun t23 H =>
  onBool t23 (pIa 1 t20 t22 H fun t24 H =>
  ldK .none H t24 fun t25 H =>
  pO (aNil t0) H fun t27 H =>
  pFa 6 t27 H fun t28 H =>
  ldK .none H t28 fun t29 H =>
  pO (aLook .int .nilp false H t29 t25) H fun t31 H =>
  pO (aNil t0) H fun t35 H =>
  pFa 0 t35 H fun t36 H =>
  ldK (.some 6) H t36 fun t37 H =>
  pC call 88 [t31, t37] H fun t38 H =>
  pExt t38 0 H fun t39 H =>
  pExt t38 1 H fun t40 H =>
  pNew [(.int .i64 (.ofNat 0)), (.int .i64 (.ofNat 0)), (.int .i64 (.ofNat 0)), (.int .i64 (.ofNat 0)), (.int .i64 (.ofNat 0))] H fun t13 H =>
  stK 5 H t13 t39 fun _ H =>
  pEql t25 t2 H fun t43 H =>
  guardA t43 false (pO (aUn .not t40) H fun t46 H =>
  S218_6 call q0 t0 t1 t2 t7 t9 t25 t31 t13 t20 t21 t22 t43 t46 H) (S218_6 call q0 t0 t1 t2 t7 t9 t25 t31 t13 t20 t21 t22 t43 U H)) (some (t9, H))) n
noncomputable def S218_7 (call : CallFn) (t0 t1 t2 t3 : AV) (H : AHeap) : R :=
  pBox t3 H fun t7 H =>
  pC call 114 [t0] H fun t20 H =>
  pO (aLen .sl H t20) H fun t21 H =>
  S218_0 call 1000000 t0 t1 t2 t7 .nilsl t20 t21 (.int .i64 (.ofNat 0)) H
noncomputable def S218 : Ff := ⟨fun call l H => argA4 (fun t0 t1 t2 t3 => S218_7 call t0 t1 t2 t3 H) l⟩
end Go.Proofs.YtlmmhkcimjjakaaGreatDoor
