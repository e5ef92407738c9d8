/- Plain functions, printed: part 1. -/
import Derived.Test.YtggjnaeefpafhaaGreatDoorAdE
import Derived.Test.YtggjnaeefpafhaaGreatDoorProg
import Derived.KernelRfl
namespace Go.Proofs.YtggjnaeefpafhaaGreatDoor
open Go.Ab
set_option maxRecDepth 100000
/- (*gantline/vm.doing).plain -/
noncomputable def S100_0 (call : CallFn) (t0 : AV) (H : AHeap) : R :=
  pO (aNil t0) H fun t7 H =>
  pFa 3 t7 H fun t8 H =>
  ldK (.some 5) H t8 fun t9 H =>
  pO (aNil t0) H fun t11 H =>
  pFa 2 t11 H fun t12 H =>
  ldK .none H t12 fun t13 H =>
  pNew [(.int .i64 (.ofNat 0)), (.int .i64 (.ofNat 0)), (.int .i64 (.ofNat 0)), (.int .i64 (.ofNat 0)), (.int .i64 (.ofNat 0))] H fun t2 H =>
  stK 5 H t2 t9 fun _ H =>
  andR (andB (ckV (aLoad .none H t12) t13) true) (
  pFa 0 t2 H fun t14 H =>
  ldK .none H t14 fun t15 H =>
  pEql t15 (.int .i64 (.ofNat 0)) H fun t40 H =>
  onBool t40 (pO (aNil t0) H fun t43 H =>
  pFa 0 t43 H fun t44 H =>
  ldK .none H t44 fun t45 H =>
  pO (aNil t45) H fun t46 H =>
  pFa 0 t46 H fun t47 H =>
  pFa 2 t47 H fun t48 H =>
  ldK .none H t48 fun t49 H =>
  pFa 2 t2 H fun t50 H =>
  ldK .none H t50 fun t51 H =>
  pIa 1 t49 t51 H fun t52 H =>
  ldK .none H t52 fun t53 H =>
  pC call 152 [t0, t53] H fun _ H =>
  some (.tup [], H)) (pEql t15 (.int .i64 (.ofNat 1)) H fun t56 H =>
  onBool t56 (pFa 2 t2 H fun t59 H =>
  ldK .none H t59 fun t60 H =>
  pC call 104 [t13, t60] H fun t61 H =>
  pC call 152 [t0, t61] H fun _ H =>
  some (.tup [], H)) (pEql t15 (.int .i64 (.ofNat 2)) H fun t64 H =>
  onBool t64 (pC call 152 [t0, (.int .i64 (.ofNat 0))] H fun _ H =>
  some (.tup [], H)) (pEql t15 (.int .i64 (.ofNat 17)) H fun t68 H =>
  onBool t68 (pFa 2 t2 H fun t71 H =>
  ldK .none H t71 fun t72 H =>
  pC call 104 [t13, t72] H fun t73 H =>
  pEql t73 (.int .i64 (.ofNat 0)) H fun t74 H =>
  pC call 153 [t74] H fun t75 H =>
  pC call 152 [t0, t75] H fun _ H =>
  some (.tup [], H)) (pEql t15 (.int .i64 (.ofNat 18)) H fun t78 H =>
  onBool t78 (pFa 1 t2 H fun t80 H =>
  ldK .none H t80 fun t81 H =>
  pC call 154 [t13, t81] H fun _ H =>
  some (.tup [], H)) (pEql t15 (.int .i64 (.ofNat 19)) H fun t84 H =>
  onBool t84 (pC call 105 [t0] H fun _ H =>
  pFa 1 t2 H fun t88 H =>
  ldK .none H t88 fun t89 H =>
  pC call 104 [t13, t89] H fun t90 H =>
  pNeq t90 (.int .i64 (.ofNat 0)) H fun t91 H =>
  onBool t91 (pFa 2 t2 H fun t93 H =>
  ldK .none H t93 fun t94 H =>
  pC call 154 [t13, t94] H fun _ H =>
  some (.tup [], H)) (some (.tup [], H))) (pEql t15 (.int .i64 (.ofNat 43)) H fun t97 H =>
  onBool t97 (pC call 105 [t0] H fun _ H =>
  some (.tup [], H)) (pFa 0 t2 H fun t17 H =>
  ldK .none H t17 fun t18 H =>
  pFa 2 t2 H fun t20 H =>
  ldK .none H t20 fun t21 H =>
  pFa 3 t2 H fun t24 H =>
  ldK .none H t24 fun t25 H =>
  pC call 104 [t13, t21] H fun t22 H =>
  andR (andB (ckV (aLoad .none H t17) t18) (andB (ckV (aLoad .none H t24) t25) true)) (
  pC call 104 [t13, t25] H fun t26 H =>
  andR (andB (ckV (aLoad .none H t17) t18) true) (
  pC call 155 [t18, t22, t26] H fun t27 H =>
  pExt t27 0 H fun t28 H =>
  pExt t27 1 H fun t29 H =>
  onBool t29 (pC call 152 [t0, t28] H fun _ H =>
  some (.tup [], H)) (pO (aNil t0) H fun t35 H =>
  pFa 0 t35 H fun t36 H =>
  ldK .none H t36 fun t37 H =>
  pC call 106 [t37, (.int .i64 (.ofNat 3))] H fun _ H =>
  some (.tup [], H))))))))))))
noncomputable def S100 : Ff := ⟨fun call l H => argA1 (fun t0 => S100_0 call t0 H) l⟩
/- (*gantline/vm.doing).calls -/
noncomputable def S101_0 (call : CallFn) (t0 : AV) (H : AHeap) : R :=
  pO (aNil t0) H fun t11 H =>
  pFa 3 t11 H fun t12 H =>
  ldK (.some 5) H t12 fun t13 H =>
  pNew [(.int .i64 (.ofNat 0)), (.int .i64 (.ofNat 0)), (.int .i64 (.ofNat 0)), (.int .i64 (.ofNat 0)), (.int .i64 (.ofNat 0))] H fun t2 H =>
  stK 5 H t2 t13 fun _ H =>
  pFa 0 t2 H fun t14 H =>
  ldK .none H t14 fun t15 H =>
  pEql t15 (.int .i64 (.ofNat 20)) H fun t17 H =>
  onBool t17 (pFa 2 t2 H fun t19 H =>
  ldK .none H t19 fun t20 H =>
  pFa 3 t2 H fun t22 H =>
  ldK .none H t22 fun t23 H =>
  pO (aNil t0) H fun t25 H =>
  pFa 0 t25 H fun t26 H =>
  ldK .none H t26 fun t27 H =>
  pO (aNil t27) H fun t28 H =>
  pFa 0 t28 H fun t29 H =>
  pFa 4 t29 H fun t30 H =>
  ldK .none H t30 fun t31 H =>
  pFa 2 t2 H fun t32 H =>
  ldK .none H t32 fun t33 H =>
  pIa 7 t31 t33 H fun t34 H =>
  pFa 0 t34 H fun t35 H =>
  ldK .none H t35 fun t36 H =>
  pC call 157 [t0, t23, t36] H fun t37 H =>
  andR (andB (ckV (aLoad .none H t19) t20) true) (
  pC call 156 [t0, t20, t37] H fun _ H =>
  some (.tup [], H))) (pEql t15 (.int .i64 (.ofNat 21)) H fun t40 H =>
  onBool t40 (pO (aNil t0) H fun t44 H =>
  pFa 2 t44 H fun t45 H =>
  ldK .none H t45 fun t46 H =>
  pFa 2 t2 H fun t47 H =>
  ldK .none H t47 fun t48 H =>
  pFa 3 t2 H fun t50 H =>
  ldK .none H t50 fun t51 H =>
  pFa 4 t2 H fun t52 H =>
  ldK .none H t52 fun t53 H =>
  pC call 104 [t46, t48] H fun t49 H =>
  andR (andB (ckV (aLoad .none H t50) t51) (andB (ckV (aLoad .none H t52) t53) true)) (
  pC call 158 [t0, t49, t51, t53, (.fn 159 [t0] [])] H fun t56 H =>
  pExt t56 0 H fun t57 H =>
  pExt t56 1 H fun t58 H =>
  pExt t56 2 H fun t59 H =>
  onBool t59 (pC call 156 [t0, t57, t58] H fun _ H =>
  some (.tup [], H)) (some (.tup [], H)))) (pEql t15 (.int .i64 (.ofNat 22)) H fun t66 H =>
  onBool t66 (pC call 160 [t0] H fun _ H =>
  some (.tup [], H)) (pEql t15 (.int .i64 (.ofNat 23)) H fun t70 H =>
  onBool t70 (pFa 1 t2 H fun t72 H =>
  ldK .none H t72 fun t73 H =>
  pFa 2 t2 H fun t75 H =>
  ldK .none H t75 fun t76 H =>
  pO (aNil t0) H fun t78 H =>
  pFa 0 t78 H fun t79 H =>
  ldK .none H t79 fun t80 H =>
  pO (aNil t80) H fun t81 H =>
  pFa 0 t81 H fun t82 H =>
  pFa 4 t82 H fun t83 H =>
  ldK .none H t83 fun t84 H =>
  pFa 1 t2 H fun t85 H =>
  ldK .none H t85 fun t86 H =>
  pIa 7 t84 t86 H fun t87 H =>
  pFa 0 t87 H fun t88 H =>
  ldK .none H t88 fun t89 H =>
  pC call 157 [t0, t76, t89] H fun t90 H =>
  andR (andB (ckV (aLoad .none H t72) t73) true) (
  pC call 161 [t0, t73, t90] H fun _ H =>
  some (.tup [], H))) (pEql t15 (.int .i64 (.ofNat 24)) H fun t93 H =>
  onBool t93 (pO (aNil t0) H fun t97 H =>
  pFa 2 t97 H fun t98 H =>
  ldK .none H t98 fun t99 H =>
  pFa 1 t2 H fun t100 H =>
  ldK .none H t100 fun t101 H =>
  pFa 2 t2 H fun t103 H =>
  ldK .none H t103 fun t104 H =>
  pFa 3 t2 H fun t105 H =>
  ldK .none H t105 fun t106 H =>
  pC call 104 [t99, t101] H fun t102 H =>
  andR (andB (ckV (aLoad .none H t103) t104) (andB (ckV (aLoad .none H t105) t106) true)) (
  pC call 158 [t0, t102, t104, t106, (.fn 162 [] [])] H fun t108 H =>
  pExt t108 0 H fun t109 H =>
  pExt t108 1 H fun t110 H =>
  pExt t108 2 H fun t111 H =>
  onBool t111 (pC call 161 [t0, t109, t110] H fun _ H =>
  some (.tup [], H)) (some (.tup [], H)))) (some (.tup [], H))))))
noncomputable def S101 : Ff := ⟨fun call l H => argA1 (fun t0 => S101_0 call t0 H) l⟩
/- (*gantline/vm.doing).make -/
noncomputable def S102_0 (call : CallFn) (t0 t2 t4 t5 : AV) (H : AHeap) : R :=
  pNeq t5 (.int .i64 (.ofNat 0)) H fun t109 H =>
  onBool t109 (pO (aNil t2) H fun t111 H =>
  pFa 11 t111 H fun t112 H =>
  stK 1 H t112 (.int .i64 (.ofNat 4)) fun _ H =>
  some (.tup [], H)) (pC call 152 [t0, t4] H fun _ H =>
  some (.tup [], H))
noncomputable def S102_1 (call : CallFn) (t0 t2 t3 t6 t54 t56 : AV) (H : AHeap) : R :=
  pPick t54 (.bool true) t56 H fun t57 H =>
  onBool t57 (pC call 106 [t2, (.int .i64 (.ofNat 5))] H fun _ H =>
  some (.tup [], H)) (pO (aNil t2) H fun t62 H =>
  pFa 6 t62 H fun t63 H =>
  ldK .none H t63 fun t64 H =>
  pFa 2 t3 H fun t65 H =>
  ldK .none H t65 fun t66 H =>
  pAdd t6 (.int .i64 (.ofNat 1)) H fun t68 H =>
  pC call 163 [t64, t66, t68, (.iface 23 t2)] H fun t71 H =>
  pExt t71 0 H fun t72 H =>
  pExt t71 1 H fun t73 H =>
  S102_0 call t0 t2 t72 t73 H)
noncomputable def S102_2 (call : CallFn) (t0 : AV) (H : AHeap) : R :=
  pO (aNil t0) H fun t9 H =>
  pFa 0 t9 H fun t10 H =>
  ldK .none H t10 fun t11 H =>
  pO (aNil t0) H fun t13 H =>
  pFa 3 t13 H fun t14 H =>
  ldK (.some 5) H t14 fun t15 H =>
  pNew [(.int .i64 (.ofNat 0)), (.int .i64 (.ofNat 0)), (.int .i64 (.ofNat 0)), (.int .i64 (.ofNat 0)), (.int .i64 (.ofNat 0))] H fun t3 H =>
  stK 5 H t3 t15 fun _ H =>
  pFa 0 t3 H fun t16 H =>
  ldK .none H t16 fun t17 H =>
  pEql t17 (.int .i64 (.ofNat 25)) H fun t19 H =>
  onBool t19 (pO (aNil t11) H fun t22 H =>
  pFa 6 t22 H fun t23 H =>
  ldK .none H t23 fun t24 H =>
  pFa 2 t3 H fun t25 H =>
  ldK .none H t25 fun t26 H =>
  pO (aNil t11) H fun t28 H =>
  pFa 0 t28 H fun t29 H =>
  pFa 0 t29 H fun t30 H =>
  ldK .none H t30 fun t31 H =>
  pFa 2 t3 H fun t32 H =>
  ldK .none H t32 fun t33 H =>
  pIa 3 t31 t33 H fun t34 H =>
  pFa 1 t34 H fun t35 H =>
  ldK .none H t35 fun t36 H =>
  pAdd t36 (.int .i64 (.ofNat 1)) H fun t37 H =>
  pC call 163 [t24, t26, t37, (.iface 23 t11)] H fun t40 H =>
  pExt t40 0 H fun t41 H =>
  pExt t40 1 H fun t42 H =>
  S102_0 call t0 t11 t41 t42 H) (pEql t17 (.int .i64 (.ofNat 26)) H fun t44 H =>
  onBool t44 (pO (aNil t0) H fun t46 H =>
  pFa 2 t46 H fun t47 H =>
  ldK .none H t47 fun t48 H =>
  pFa 3 t3 H fun t49 H =>
  ldK .none H t49 fun t50 H =>
  pC call 104 [t48, t50] H fun t51 H =>
  pLss t51 (.int .i64 (.ofNat 0)) H fun t53 H =>
  guardA t53 false (pGtr t51 (.int .i64 (.ofNat 63)) H fun t56 H =>
  S102_1 call t0 t11 t3 t51 t53 t56 H) (S102_1 call t0 t11 t3 t51 t53 U H)) (pEql t17 (.int .i64 (.ofNat 36)) H fun t75 H =>
  onBool t75 (pC call 164 [t0] H fun t78 H =>
  pExt t78 0 H fun t79 H =>
  pExt t78 1 H fun t80 H =>
  S102_0 call t0 t11 t79 t80 H) (pEql t17 (.int .i64 (.ofNat 37)) H fun t82 H =>
  onBool t82 (pO (aNil t11) H fun t85 H =>
  pFa 6 t85 H fun t86 H =>
  ldK .none H t86 fun t87 H =>
  pFa 2 t3 H fun t88 H =>
  ldK .none H t88 fun t89 H =>
  pO (aNil t0) H fun t91 H =>
  pFa 2 t91 H fun t92 H =>
  ldK .none H t92 fun t93 H =>
  pFa 3 t3 H fun t94 H =>
  ldK .none H t94 fun t95 H =>
  pC call 104 [t93, t95] H fun t96 H =>
  andR (andB (ckV (aLoad .none H t86) t87) (andB (ckV (aLoad .none H t88) t89) true)) (
  pC call 165 [t87, t89, t96, (.iface 23 t11)] H fun t99 H =>
  pExt t99 0 H fun t100 H =>
  pExt t99 1 H fun t101 H =>
  pExt t99 2 H fun t102 H =>
  pNeq t101 (.int .i64 (.ofNat 0)) H fun t104 H =>
  onBool t104 (pC call 106 [t11, t101] H fun _ H =>
  some (.tup [], H)) (S102_0 call t0 t11 t100 t102 H))) (S102_0 call t0 t11 (.int .i64 (.ofNat 0)) (.int .i64 (.ofNat 0)) H))))
noncomputable def S102 : Ff := ⟨fun call l H => argA1 (fun t0 => S102_2 call t0 H) l⟩
/- (*gantline/frame.Stack).Get -/
noncomputable def S104_0 (_ : CallFn) (t1 t5 t14 t21 : AV) (H : AHeap) : R :=
  pPick t14 (.bool true) t21 H fun t22 H =>
  onBool t22 (some ((.int .i64 (.ofNat 0)), H)) (pO (aNil t5) H fun t24 H =>
  pFa 2 t24 H fun t25 H =>
  ldK .none H t25 fun t26 H =>
  pIa 1 t26 t1 H fun t28 H =>
  ldK .none H t28 fun t29 H =>
  some (t29, H))
noncomputable def S104_1 (call : CallFn) (t1 t5 t10 t12 : AV) (H : AHeap) : R :=
  pPick t10 (.bool true) t12 H fun t13 H =>
  guardA t13 false (pO (aNil t5) H fun t17 H =>
  pFa 2 t17 H fun t18 H =>
  ldK .none H t18 fun t19 H =>
  pO (aLen .sl H t19) H fun t20 H =>
  pGeq t1 t20 H fun t21 H =>
  S104_0 call t1 t5 t13 t21 H) (S104_0 call t1 t5 t13 U H)
noncomputable def S104_2 (call : CallFn) (t0 t1 : AV) (H : AHeap) : R :=
  pC call 98 [t0] H fun t7 H =>
  pO (aEq false .ptr t7 .nilp) H fun t9 H =>
  guardA t9 false (pLss t1 (.int .i64 (.ofNat 0)) H fun t12 H =>
  S104_1 call t1 t7 t9 t12 H) (S104_1 call t1 t7 t9 U H)
noncomputable def S104 : Ff := ⟨fun call l H => argA2 (fun t0 t1 => S104_2 call t0 t1 H) l⟩
/- (*gantline/vm.doing).on -/
noncomputable def S105_0 (call : CallFn) (t0 : AV) (H : AHeap) : R :=
  pO (aNil t0) H fun t3 H =>
  pFa 2 t3 H fun t4 H =>
  ldK .none H t4 fun t5 H =>
  pO (aNil t0) H fun t7 H =>
  pFa 15 t7 H fun t8 H =>
  ldK .none H t8 fun t9 H =>
  pAdd t9 (.int .i64 (.ofNat 1)) H fun t10 H =>
  pC call 154 [t5, t10] H fun _ H =>
  some (.tup [], H)
noncomputable def S105 : Ff := ⟨fun call l H => argA1 (fun t0 => S105_0 call t0 H) l⟩
/- (*gantline/vm.doing).channels -/
noncomputable def S107_0 (call : CallFn) (t0 t2 t3 t23 t40 : AV) (H : AHeap) : R :=
  pPick t23 t40 (.bool false) H fun t41 H =>
  onBool t41 (pO (aNil t0) H fun t43 H =>
  pFa 2 t43 H fun t44 H =>
  ldK .none H t44 fun t45 H =>
  pO (aNil t2) H fun t47 H =>
  pFa 0 t47 H fun t48 H =>
  pFa 3 t48 H fun t49 H =>
  ldK .none H t49 fun t50 H =>
  pFa 1 t3 H fun t51 H =>
  ldK .none H t51 fun t52 H =>
  pO (aNil t0) H fun t54 H =>
  pFa 16 t54 H fun t55 H =>
  pFa 0 t55 H fun t56 H =>
  ldK .none H t56 fun t57 H =>
  pAdd t52 t57 H fun t58 H =>
  pIa 4 t50 t58 H fun t59 H =>
  pFa 3 t59 H fun t60 H =>
  ldK .none H t60 fun t61 H =>
  pC call 154 [t45, t61] H fun _ H =>
  some (.tup [], H)) (pO (aNil t0) H fun t65 H =>
  pFa 2 t65 H fun t66 H =>
  ldK .none H t66 fun t67 H =>
  pO (aNil t0) H fun t69 H =>
  pFa 16 t69 H fun t70 H =>
  pFa 0 t70 H fun t71 H =>
  ldK .none H t71 fun t72 H =>
  pNew [.nilp, (.bool false), (.int .i64 (.ofNat 0)), (.int .i64 (.ofNat 0)), (.int .i64 (.ofNat 0)), (.int .i64 (.ofNat 0))] H fun t4 H =>
  pC call 174 [t2, t67, t72] H fun t73 H =>
  stK 6 H t4 t73 fun _ H =>
  ldK (.some 6) H t4 fun t95 H =>
  pC call 175 [t0, t95] H fun t96 H =>
  pO (aUn .not t96) H fun t97 H =>
  onBool t97 (pC call 106 [t2, (.int .i64 (.ofNat 1))] H fun _ H =>
  some (.tup [], H)) (pO (aNil t0) H fun t102 H =>
  pFa 16 t102 H fun t103 H =>
  pFa 1 t103 H fun t104 H =>
  ldK .none H t104 fun t105 H =>
  pNeq t105 (.int .i64 (.ofNat 0)) H fun t106 H =>
  onBool t106 (ldK (.some 6) H t4 fun t108 H =>
  pO (aNil t2) H fun t111 H =>
  pFa 7 t111 H fun t112 H =>
  ldK .none H t112 fun t113 H =>
  pO (aNil t0) H fun t115 H =>
  pFa 16 t115 H fun t116 H =>
  pFa 1 t116 H fun t117 H =>
  ldK .none H t117 fun t118 H =>
  pO (aNil t0) H fun t121 H =>
  pFa 16 t121 H fun t122 H =>
  pFa 2 t122 H fun t123 H =>
  ldK .none H t123 fun t124 H =>
  pC call 45 [t113, t118] H fun t119 H =>
  andR (andB (ckV (aLoad (.some 6) H t4) t108) (andB (ckV (aLoad .none H t123) t124) true)) (
  pC call 174 [t2, t119, t124] H fun t125 H =>
  andR (andB (ckV (aLoad (.some 6) H t4) t108) true) (
  pC call 176 [t0, t108, t125] H fun _ H =>
  some (.tup [], H)))) (pFa 1 t4 H fun t128 H =>
  ldK .none H t128 fun t129 H =>
  onBool t129 (ldK (.some 6) H t4 fun t131 H =>
  pC call 177 [t0, t131] H fun _ H =>
  some (.tup [], H)) (pO (aNil t2) H fun t76 H =>
  pFa 6 t76 H fun t77 H =>
  ldK .none H t77 fun t78 H =>
  pO (aNil t0) H fun t80 H =>
  pFa 2 t80 H fun t81 H =>
  ldK .none H t81 fun t82 H =>
  pFa 2 t4 H fun t83 H =>
  ldK .none H t83 fun t84 H =>
  pC call 104 [t82, t84] H fun t85 H =>
  andR (andB (ckV (aLoad .none H t77) t78) true) (
  pC call 178 [t78, t85] H fun t86 H =>
  pExt t86 0 H fun t87 H =>
  pExt t86 1 H fun t88 H =>
  ldK (.some 6) H t4 fun t89 H =>
  pC call 179 [t89, t87, t88] H fun _ H =>
  some (.tup [], H))))))
noncomputable def S107_1 (call : CallFn) (t0 t2 t3 t23 t39 : AV) (H : AHeap) : R :=
  guardA t23 true (pGtr t39 (.int .i64 (.ofNat 1)) H fun t40 H =>
  S107_0 call t0 t2 t3 t23 t40 H) (S107_0 call t0 t2 t3 t23 U H)
noncomputable def S107_2 (call : CallFn) (t0 t2 t3 t23 t38 : AV) (H : AHeap) : R :=
  guardA t23 true (ldK .none H t38 fun t39 H =>
  S107_1 call t0 t2 t3 t23 t39 H) (S107_1 call t0 t2 t3 t23 U H)
noncomputable def S107_3 (call : CallFn) (t0 t2 t3 t23 t37 : AV) (H : AHeap) : R :=
  guardA t23 true (pFa 0 t37 H fun t38 H =>
  S107_2 call t0 t2 t3 t23 t38 H) (S107_2 call t0 t2 t3 t23 U H)
noncomputable def S107_4 (call : CallFn) (t0 t2 t3 t23 t28 t36 : AV) (H : AHeap) : R :=
  guardA t23 true (pIa 4 t28 t36 H fun t37 H =>
  S107_3 call t0 t2 t3 t23 t37 H) (S107_3 call t0 t2 t3 t23 U H)
noncomputable def S107_5 (call : CallFn) (t0 t2 t3 t23 t28 t30 t35 : AV) (H : AHeap) : R :=
  guardA t23 true (pAdd t30 t35 H fun t36 H =>
  S107_4 call t0 t2 t3 t23 t28 t36 H) (S107_4 call t0 t2 t3 t23 t28 U H)
noncomputable def S107_6 (call : CallFn) (t0 t2 t3 t23 t28 t30 t34 : AV) (H : AHeap) : R :=
  guardA t23 true (ldK .none H t34 fun t35 H =>
  S107_5 call t0 t2 t3 t23 t28 t30 t35 H) (S107_5 call t0 t2 t3 t23 t28 t30 U H)
noncomputable def S107_7 (call : CallFn) (t0 t2 t3 t23 t28 t30 t33 : AV) (H : AHeap) : R :=
  guardA t23 true (pFa 0 t33 H fun t34 H =>
  S107_6 call t0 t2 t3 t23 t28 t30 t34 H) (S107_6 call t0 t2 t3 t23 t28 t30 U H)
noncomputable def S107_8 (call : CallFn) (t0 t2 t3 t23 t28 t30 t32 : AV) (H : AHeap) : R :=
  guardA t23 true (pFa 16 t32 H fun t33 H =>
  S107_7 call t0 t2 t3 t23 t28 t30 t33 H) (S107_7 call t0 t2 t3 t23 t28 t30 U H)
noncomputable def S107_9 (call : CallFn) (t0 t2 t3 t23 t28 t30 t31 : AV) (H : AHeap) : R :=
  guardA t23 true (pO (aNil t31) H fun t32 H =>
  S107_8 call t0 t2 t3 t23 t28 t30 t32 H) (S107_8 call t0 t2 t3 t23 t28 t30 U H)
noncomputable def S107_10 (call : CallFn) (t0 t2 t3 t23 t28 t30 : AV) (H : AHeap) : R :=
  guardA t23 true (S107_9 call t0 t2 t3 t23 t28 t30 t0 H) (S107_9 call t0 t2 t3 t23 t28 t30 U H)
noncomputable def S107_11 (call : CallFn) (t0 t2 t3 t23 t28 t29 : AV) (H : AHeap) : R :=
  guardA t23 true (ldK .none H t29 fun t30 H =>
  S107_10 call t0 t2 t3 t23 t28 t30 H) (S107_10 call t0 t2 t3 t23 t28 U H)
noncomputable def S107_12 (call : CallFn) (t0 t2 t3 t23 t28 : AV) (H : AHeap) : R :=
  guardA t23 true (pFa 1 t3 H fun t29 H =>
  S107_11 call t0 t2 t3 t23 t28 t29 H) (S107_11 call t0 t2 t3 t23 t28 U H)
noncomputable def S107_13 (call : CallFn) (t0 t2 t3 t23 t27 : AV) (H : AHeap) : R :=
  guardA t23 true (ldK .none H t27 fun t28 H =>
  S107_12 call t0 t2 t3 t23 t28 H) (S107_12 call t0 t2 t3 t23 U H)
noncomputable def S107_14 (call : CallFn) (t0 t2 t3 t23 t26 : AV) (H : AHeap) : R :=
  guardA t23 true (pFa 3 t26 H fun t27 H =>
  S107_13 call t0 t2 t3 t23 t27 H) (S107_13 call t0 t2 t3 t23 U H)
noncomputable def S107_15 (call : CallFn) (t0 t2 t3 t23 t25 : AV) (H : AHeap) : R :=
  guardA t23 true (pFa 0 t25 H fun t26 H =>
  S107_14 call t0 t2 t3 t23 t26 H) (S107_14 call t0 t2 t3 t23 U H)
noncomputable def S107_16 (call : CallFn) (t0 t2 t3 t23 t24 : AV) (H : AHeap) : R :=
  guardA t23 true (pO (aNil t24) H fun t25 H =>
  S107_15 call t0 t2 t3 t23 t25 H) (S107_15 call t0 t2 t3 t23 U H)
noncomputable def S107_17 (call : CallFn) (t0 : AV) (H : AHeap) : R :=
  pO (aNil t0) H fun t8 H =>
  pFa 0 t8 H fun t9 H =>
  ldK .none H t9 fun t10 H =>
  pO (aNil t0) H fun t12 H =>
  pFa 3 t12 H fun t13 H =>
  ldK (.some 5) H t13 fun t14 H =>
  pNew [(.int .i64 (.ofNat 0)), (.int .i64 (.ofNat 0)), (.int .i64 (.ofNat 0)), (.int .i64 (.ofNat 0)), (.int .i64 (.ofNat 0))] H fun t3 H =>
  stK 5 H t3 t14 fun _ H =>
  pFa 0 t3 H fun t15 H =>
  ldK .none H t15 fun t16 H =>
  pEql t16 (.int .i64 (.ofNat 40)) H fun t17 H =>
  onBool t17 (pC call 173 [t0] H fun _ H =>
  some (.tup [], H)) (pFa 0 t3 H fun t20 H =>
  ldK .none H t20 fun t21 H =>
  pEql t21 (.int .i64 (.ofNat 41)) H fun t22 H =>
  guardA t22 true (S107_16 call t0 t10 t3 t22 t10 H) (S107_16 call t0 t10 t3 t22 U H))
noncomputable def S107 : Ff := ⟨fun call l H => argA1 (fun t0 => S107_17 call t0 H) l⟩
/- slices.DeleteFunc[[]int,int] -/
noncomputable def S108_0 (_ : CallFn) (t0 t5 : AV) (H : AHeap) : R :=
  pO (aSlice 1 H t0 (.some t5) .none .none) H fun t38 H =>
  pW (unitW (aClearS [(.int .i64 (.ofNat 0))] H t38)) fun _ H =>
  pO (aSlice 1 H t0 .none (.some t5) .none) H fun t41 H =>
  some (t41, H)
noncomputable def S108_2 (_ : CallFn) (q0 : AV → AV → AV → AV → AHeap → R) (t0 t1 t5 t6 : AV) (H : AHeap) : R :=
  pAdd t6 (.int .i64 (.ofNat 1)) H fun t21 H =>
  q0 t0 t1 t5 t21 H
noncomputable def S108_1 (call : CallFn) (n : Nat) : AV → AV → AV → AV → AHeap → R :=
  Nat.rec (motive := fun _ => AV → AV → AV → AV → AHeap → R) (fun _ _ _ _ _ => none) (fun _ q0 t0 t1 t5 t6 H => pO (aLen .sl H t0) H fun t18 H =>
  pLss t6 t18 H fun t19 H =>
  onBool t19 (pIa 1 t0 t6 H fun t24 H =>
  ldK .none H t24 fun t25 H =>
  pV call t1 [t25] H fun t28 H =>
  pO (aUn .not t28) H fun t29 H =>
  onBool t29 (pIa 1 t0 t5 H fun t33 H =>
  stK 1 H t33 t25 fun _ H =>
  pAdd t5 (.int .i64 (.ofNat 1)) H fun t35 H =>
  S108_2 call q0 t0 t1 t35 t6 H) (S108_2 call q0 t0 t1 t5 t6 H)) (S108_0 call t0 t5 H)) n
noncomputable def S108_3 (call : CallFn) (t0 t1 : AV) (H : AHeap) : R :=
  pC call 180 [t0, t1] H fun t10 H =>
  pEql t10 (.int .i64 (.negSucc 0)) H fun t12 H =>
  onBool t12 (some (t0, H)) (pAdd t10 (.int .i64 (.ofNat 1)) H fun t15 H =>
  S108_1 call 1000000 t0 t1 t10 t15 H)
noncomputable def S108 : Ff := ⟨fun call l H => argA2 (fun t0 t1 => S108_3 call t0 t1 H) l⟩
/- (*gantline/sched.Table).Enabled$1 -/
noncomputable def S109_0 (call : CallFn) (t0 t1 t2 : AV) (H : AHeap) : R :=
  ldK .none H t1 fun t5 H =>
  ldK .none H t2 fun t6 H =>
  pC call 97 [t5, t6, t0] H fun t8 H =>
  pO (aLen .sl H t8) H fun t9 H =>
  pEql t9 (.int .i64 (.ofNat 0)) H fun t10 H =>
  some (t10, H)
noncomputable def S109 : Ff := ⟨fun call l H => argA3 (fun t0 t1 t2 => S109_0 call t0 t1 t2 H) l⟩
/- (*gantline/arena.Arena).Clear -/
noncomputable def S116_0 (_ : CallFn) (n : Nat) : AV → AV → AV → AHeap → R :=
  Nat.rec (motive := fun _ => AV → AV → AV → AHeap → R) (fun _ _ _ _ => none) (fun _ q0 t0 t7 t8 H => pLss t8 t7 H fun t9 H =>
  onBool t9 (pO (aNil t0) H fun t12 H =>
  pFa 1 t12 H fun t13 H =>
  ldK .none H t13 fun t14 H =>
  pIa 3 t14 t8 H fun t16 H =>
  pFa 2 t16 H fun t17 H =>
  stK 1 H t17 (.int .u64 (.ofNat 0)) fun _ H =>
  pAdd t8 (.int .i64 (.ofNat 1)) H fun t18 H =>
  q0 t0 t7 t18 H) (some (.tup [], H))) n
noncomputable def S116_1 (call : CallFn) (t0 : AV) (H : AHeap) : R :=
  pO (aNil t0) H fun t4 H =>
  pFa 1 t4 H fun t5 H =>
  ldK .none H t5 fun t6 H =>
  pO (aLen .sl H t6) H fun t7 H =>
  S116_0 call 1000000 t0 t7 (.int .i64 (.ofNat 0)) H
noncomputable def S116 : Ff := ⟨fun call l H => argA1 (fun t0 => S116_1 call t0 H) l⟩
/- (*gantline/cycle.Cycle).shade -/
noncomputable def S117_0 (call : CallFn) (n : Nat) : AV → AV → AV → AV → AHeap → R :=
  Nat.rec (motive := fun _ => AV → AV → AV → AV → AHeap → R) (fun _ _ _ _ _ => none) (fun _ q0 t0 t6 t7 t8 H => pLss t8 t7 H fun t9 H =>
  onBool t9 (pIa 1 t6 t8 H fun t10 H =>
  ldK .none H t10 fun t11 H =>
  pO (aNil t0) H fun t13 H =>
  pFa 3 t13 H fun t14 H =>
  ldK .none H t14 fun t15 H =>
  pC call 187 [t15, t11] H fun _ H =>
  pAdd t8 (.int .i64 (.ofNat 1)) H fun t18 H =>
  q0 t0 t6 t7 t18 H) (some (.tup [], H))) n
noncomputable def S117_1 (call : CallFn) (t0 t1 : AV) (H : AHeap) : R :=
  pO (aLen .sl H t1) H fun t7 H =>
  S117_0 call 1000000 t0 t1 t7 (.int .i64 (.ofNat 0)) H
noncomputable def S117 : Ff := ⟨fun call l H => argA2 (fun t0 t1 => S117_1 call t0 t1 H) l⟩
/- slices.IndexFunc[[]int64,int64] -/
noncomputable def S118_0 (call : CallFn) (n : Nat) : AV → AV → AV → AV → AHeap → R :=
  Nat.rec (motive := fun _ => AV → AV → AV → AV → AHeap → R) (fun _ _ _ _ _ => none) (fun _ q0 t0 t1 t7 t8 H => pLss t8 t7 H fun t9 H =>
  onBool t9 (pIa 1 t0 t8 H fun t14 H =>
  ldK .none H t14 fun t15 H =>
  pV call t1 [t15] H fun t16 H =>
  onBool t16 (some (t8, H)) (pAdd t8 (.int .i64 (.ofNat 1)) H fun t18 H =>
  q0 t0 t1 t7 t18 H)) (some ((.int .i64 (.negSucc 0)), H))) n
noncomputable def S118_1 (call : CallFn) (t0 t1 : AV) (H : AHeap) : R :=
  pO (aLen .sl H t0) H fun t7 H =>
  S118_0 call 1000000 t0 t1 t7 (.int .i64 (.ofNat 0)) H
noncomputable def S118 : Ff := ⟨fun call l H => argA2 (fun t0 t1 => S118_1 call t0 t1 H) l⟩
/- (*gantline/vm.Machine).Globals -/
noncomputable def S119_1 (_ : CallFn) (q0 : AV → AV → AV → AV → AV → AHeap → R) (t0 t3 t9 t10 t11 : AV) (H : AHeap) : R :=
  pAdd t11 (.int .i64 (.ofNat 1)) H fun t32 H =>
  q0 t0 t3 t9 t10 t32 H
noncomputable def S119_2 (call : CallFn) (q0 : AV → AV → AV → AV → AV → AHeap → R) (t0 t3 t5 t9 t10 t11 t24 t26 : AV) (H : AHeap) : R :=
  pPick t24 t26 (.bool false) H fun t27 H =>
  onBool t27 (pN (aBsl 1 1 [(.int .i64 (.ofNat 0))] [(0, 1, t5)]) H fun t30 H =>
  pW (aApp 1 8 H t3 t30) fun t31 H =>
  S119_1 call q0 t0 t31 t9 t10 t11 H) (S119_1 call q0 t0 t3 t9 t10 t11 H)
noncomputable def S119_0 (call : CallFn) (n : Nat) : AV → AV → AV → AV → AV → AHeap → R :=
  Nat.rec (motive := fun _ => AV → AV → AV → AV → AV → AHeap → R) (fun _ _ _ _ _ _ => none) (fun _ q0 t0 t3 t9 t10 t11 H => pLss t11 t10 H fun t12 H =>
  onBool t12 (pIa 1 t9 t11 H fun t14 H =>
  ldK .none H t14 fun t15 H =>
  pO (aNil t0) H fun t17 H =>
  pFa 0 t17 H fun t18 H =>
  pFa 1 t18 H fun t19 H =>
  ldK .none H t19 fun t20 H =>
  pIa 1 t20 t11 H fun t22 H =>
  ldK .none H t22 fun t23 H =>
  guardA t23 true (pNeq t15 (.int .i64 (.ofNat 0)) H fun t26 H =>
  S119_2 call q0 t0 t3 t15 t9 t10 t11 t23 t26 H) (S119_2 call q0 t0 t3 t15 t9 t10 t11 t23 U H)) (some (t3, H))) n
noncomputable def S119_3 (call : CallFn) (t0 : AV) (H : AHeap) : R :=
  pO (aNil t0) H fun t7 H =>
  pFa 8 t7 H fun t8 H =>
  ldK .none H t8 fun t9 H =>
  pO (aLen .sl H t9) H fun t10 H =>
  S119_0 call 1000000 t0 .nilsl t9 t10 (.int .i64 (.ofNat 0)) H
noncomputable def S119 : Ff := ⟨fun call l H => argA1 (fun t0 => S119_3 call t0 H) l⟩
/- (*gantline/arena.Arena).Read -/
noncomputable def S121_0 (call : CallFn) (t0 t1 t2 : AV) (H : AHeap) : R :=
  pC call 191 [t0, t1, t2] H fun t12 H =>
  pO (aEq false .ptr t12 .nilp) H fun t14 H =>
  onBool t14 (some (.tup [(.int .i64 (.ofNat 0)), (.int .i64 (.ofNat 1))], H)) (pO (aNil t12) H fun t16 H =>
  ldK .none H t16 fun t17 H =>
  some (.tup [t17, (.int .i64 (.ofNat 0))], H))
noncomputable def S121 : Ff := ⟨fun call l H => argA3 (fun t0 t1 t2 => S121_0 call t0 t1 t2 H) l⟩
/- gantline/head.Unpack -/
noncomputable def S122_0 (_ : CallFn) (t2 t5 t21 t24 : AV) (H : AHeap) : R :=
  pPick t21 (.bool true) t24 H fun t25 H =>
  onBool t25 (pO (someAgg (aFill [(.int .i64 (.ofNat 0)), (.int .i64 (.ofNat 0)), (.int .i64 (.ofNat 0))] [])) H fun t26 H =>
  stK 3 H t2 t26 fun _ H =>
  ob (allM (fun o => o) [aLoad (.some 3) H t2, some (.int .i64 (.ofNat 3))]) fun vs => some (resV vs, H)) (ldK (.some 3) H t5 fun t27 H =>
  stK 3 H t2 t27 fun _ H =>
  ob (allM (fun o => o) [aLoad (.some 3) H t2, some (.int .i64 (.ofNat 0))]) fun vs => some (resV vs, H))
noncomputable def S122_1 (call : CallFn) (t0 : AV) (H : AHeap) : R :=
  pNew [(.int .i64 (.ofNat 0)), (.int .i64 (.ofNat 0)), (.int .i64 (.ofNat 0))] H fun t2 H =>
  pConv .u64 t0 H fun t7 H =>
  pC call 192 [t7, (.int .i64 (.ofNat 0)), (.int .i64 (.ofNat 7))] H fun t9 H =>
  pConv .i64 t9 H fun t10 H =>
  pC call 192 [t7, (.int .i64 (.ofNat 7)), (.int .i64 (.ofNat 3))] H fun t12 H =>
  pConv .i64 t12 H fun t13 H =>
  pC call 192 [t7, (.int .i64 (.ofNat 10)), (.int .i64 (.ofNat 16))] H fun t15 H =>
  pConv .i64 t15 H fun t16 H =>
  pO (someAgg (aFill [(.int .i64 (.ofNat 0)), (.int .i64 (.ofNat 0)), (.int .i64 (.ofNat 0))] [(0, 1, t10), (1, 1, t13), (2, 1, t16)])) H fun t17 H =>
  pNew [(.int .i64 (.ofNat 0)), (.int .i64 (.ofNat 0)), (.int .i64 (.ofNat 0))] H fun t5 H =>
  stK 3 H t5 t17 fun _ H =>
  pO (aBin .shr t7 (.int .u64 (.ofNat 26))) H fun t19 H =>
  pNeq t19 (.int .u64 (.ofNat 0)) H fun t20 H =>
  guardA t20 false (ldK (.some 3) H t5 fun t22 H =>
  pC call 193 [t22] H fun t23 H =>
  pO (aUn .not t23) H fun t24 H =>
  S122_0 call t2 t5 t20 t24 H) (S122_0 call t2 t5 t20 U H)
noncomputable def S122 : Ff := ⟨fun call l H => argA1 (fun t0 => S122_1 call t0 H) l⟩
/- gantline/geom.Words -/
noncomputable def S123_0 (_ : CallFn) (t0 t5 t7 : AV) (H : AHeap) : R :=
  pPick t5 (.bool true) t7 H fun t8 H =>
  onBool t8 (some ((.int .i64 (.ofNat 0)), H)) (pConv .u64 t0 H fun t10 H =>
  pO (aBin .shl (.int .i64 (.ofNat 2)) t10) H fun t11 H =>
  some (t11, H))
noncomputable def S123_1 (call : CallFn) (t0 : AV) (H : AHeap) : R :=
  pLss t0 (.int .i64 (.ofNat 0)) H fun t4 H =>
  guardA t4 false (pGeq t0 (.int .i64 (.ofNat 6)) H fun t7 H =>
  S123_0 call t0 t4 t7 H) (S123_0 call t0 t4 U H)
noncomputable def S123 : Ff := ⟨fun call l H => argA1 (fun t0 => S123_1 call t0 H) l⟩
/- gantline/geom.Span -/
noncomputable def S124_0 (_ : CallFn) (t0 t5 t7 : AV) (H : AHeap) : R :=
  pPick t5 (.bool true) t7 H fun t8 H =>
  onBool t8 (some ((.int .i64 (.negSucc 0)), H)) (pO (aBin .quo t0 (.int .i64 (.ofNat 64))) H fun t10 H =>
  some (t10, H))
noncomputable def S124_1 (call : CallFn) (t0 : AV) (H : AHeap) : R :=
  pLss t0 (.int .i64 (.ofNat 0)) H fun t4 H =>
  guardA t4 false (pGeq t0 (.int .i64 (.ofNat 32768)) H fun t7 H =>
  S124_0 call t0 t4 t7 H) (S124_0 call t0 t4 U H)
noncomputable def S124 : Ff := ⟨fun call l H => argA1 (fun t0 => S124_1 call t0 H) l⟩
/- (*gantline/head.Table).Shape -/
noncomputable def S125_0 (_ : CallFn) (t0 t1 t4 t8 t15 : AV) (H : AHeap) : R :=
  pPick t8 (.bool true) t15 H fun t16 H =>
  onBool t16 (pO (someAgg (aFill [(.int .i64 (.ofNat 0)), (.int .i64 (.ofNat 0)), (.int .u64 (.ofNat 0))] [])) H fun t17 H =>
  stK 3 H t4 t17 fun _ H =>
  ob (allM (fun o => o) [aLoad (.some 3) H t4, some (.int .i64 (.ofNat 4))]) fun vs => some (resV vs, H)) (pO (aNil t0) H fun t19 H =>
  pFa 0 t19 H fun t20 H =>
  ldK .none H t20 fun t21 H =>
  pIa 3 t21 t1 H fun t23 H =>
  ldK (.some 3) H t23 fun t24 H =>
  stK 3 H t4 t24 fun _ H =>
  ob (allM (fun o => o) [aLoad (.some 3) H t4, some (.int .i64 (.ofNat 0))]) fun vs => some (resV vs, H))
noncomputable def S125_1 (call : CallFn) (t0 t1 : AV) (H : AHeap) : R :=
  pNew [(.int .i64 (.ofNat 0)), (.int .i64 (.ofNat 0)), (.int .u64 (.ofNat 0))] H fun t4 H =>
  pLss t1 (.int .i64 (.ofNat 0)) H fun t7 H =>
  guardA t7 false (pO (aNil t0) H fun t11 H =>
  pFa 0 t11 H fun t12 H =>
  ldK .none H t12 fun t13 H =>
  pO (aLen .sl H t13) H fun t14 H =>
  pGeq t1 t14 H fun t15 H =>
  S125_0 call t0 t1 t4 t7 t15 H) (S125_0 call t0 t1 t4 t7 U H)
noncomputable def S125 : Ff := ⟨fun call l H => argA2 (fun t0 t1 => S125_1 call t0 t1 H) l⟩
/- maps.Keys[map[int64]bool,int64,bool] -/
noncomputable def S128_0 (_ : CallFn) (t0 : AV) (H : AHeap) : R :=
  pBox t0 H fun t1 H =>
  some ((.fn 196 [] [t1]), H)
noncomputable def S128 : Ff := ⟨fun call l H => argA1 (fun t0 => S128_0 call t0 H) l⟩
/- gantline/geom.Place -/
noncomputable def S129_0 (call : CallFn) (t0 t1 t9 t12 : AV) (H : AHeap) : R :=
  pPick t9 (.bool true) t12 H fun t13 H =>
  onBool t13 (some ((.int .i64 (.negSucc 0)), H)) (pO (aBin .rem t0 (.int .i64 (.ofNat 64))) H fun t15 H =>
  pC call 123 [t1] H fun t18 H =>
  pO (aBin .rem t15 t18) H fun t19 H =>
  pNeq t19 (.int .i64 (.ofNat 0)) H fun t20 H =>
  onBool t20 (some ((.int .i64 (.negSucc 0)), H)) (pC call 123 [t1] H fun t23 H =>
  pO (aBin .quo t15 t23) H fun t24 H =>
  some (t24, H)))
noncomputable def S129_1 (call : CallFn) (t0 t1 : AV) (H : AHeap) : R :=
  pC call 123 [t1] H fun t7 H =>
  pEql t7 (.int .i64 (.ofNat 0)) H fun t8 H =>
  guardA t8 false (pC call 124 [t0] H fun t11 H =>
  pEql t11 (.int .i64 (.negSucc 0)) H fun t12 H =>
  S129_0 call t0 t1 t8 t12 H) (S129_0 call t0 t1 t8 U H)
noncomputable def S129 : Ff := ⟨fun call l H => argA2 (fun t0 t1 => S129_1 call t0 t1 H) l⟩
/- gantline/live.Sets$1 -/
noncomputable def S130_0 (_ : CallFn) (n : Nat) : AV → AV → AV → AV → AV → AHeap → R :=
  Nat.rec (motive := fun _ => AV → AV → AV → AV → AV → AHeap → R) (fun _ _ _ _ _ _ => none) (fun _ q0 t3 t6 t64 t65 t66 H => pLss t66 t65 H fun t67 H =>
  onBool t67 (pIa 1 t64 t66 H fun t68 H =>
  ldK .none H t68 fun t69 H =>
  ldK .none H t3 fun t71 H =>
  pIa 1 t71 t69 H fun t73 H =>
  ldK .none H t73 fun t74 H =>
  pOr t6 t74 H fun t75 H =>
  pAdd t66 (.int .i64 (.ofNat 1)) H fun t76 H =>
  q0 t3 t75 t64 t65 t76 H) (some (t6, H))) n
noncomputable def S130_1 (call : CallFn) (t0 t1 t2 t3 t6 : AV) (H : AHeap) : R :=
  ldK (.some 6) H t2 fun t61 H =>
  ldK (.some 7) H t1 fun t62 H =>
  pC call 133 [t61, t62, t0] H fun t64 H =>
  pO (aLen .sl H t64) H fun t65 H =>
  S130_0 call 1000000 t3 t6 t64 t65 (.int .i64 (.ofNat 0)) H
noncomputable def S130_3 (_ : CallFn) (q1 : AV → AV → AV → AV → AV → AV → AHeap → R) (t1 t3 t6 t23 t24 t25 : AV) (H : AHeap) : R :=
  pAdd t25 (.int .i64 (.ofNat 1)) H fun t59 H =>
  q1 t1 t3 t6 t23 t24 t59 H
noncomputable def S130_4 (call : CallFn) (q1 : AV → AV → AV → AV → AV → AV → AHeap → R) (t1 t3 t6 t9 t23 t24 t25 t32 t38 : AV) (H : AHeap) : R :=
  pPick t32 (.bool true) t38 H fun t39 H =>
  onBool t39 (S130_3 call q1 t1 t3 t6 t23 t24 t25 H) (ldK .none H t3 fun t40 H =>
  pFa 3 t9 H fun t41 H =>
  ldK .none H t41 fun t42 H =>
  pIa 1 t40 t42 H fun t43 H =>
  ldK .none H t43 fun t44 H =>
  pFa 0 t9 H fun t45 H =>
  ldK .none H t45 fun t46 H =>
  pEql t46 (.int .i64 (.ofNat 0)) H fun t47 H =>
  onBool t47 (pFa 2 t9 H fun t50 H =>
  ldK .none H t50 fun t51 H =>
  pN (aBsl 1 1 [(.int .i64 (.ofNat 0))] [(0, 1, t51)]) H fun t52 H =>
  pC call 132 [t52] H fun t53 H =>
  pAndN t44 t53 H fun t54 H =>
  pOr t6 t54 H fun t55 H =>
  S130_3 call q1 t1 t3 t55 t23 t24 t25 H) (pOr t6 t44 H fun t58 H =>
  S130_3 call q1 t1 t3 t58 t23 t24 t25 H))
noncomputable def S130_2 (call : CallFn) (n : Nat) : AV → AV → AV → AV → AV → AV → AHeap → R :=
  Nat.rec (motive := fun _ => AV → AV → AV → AV → AV → AV → AHeap → R) (fun _ _ _ _ _ _ _ => none) (fun _ q1 t1 t3 t6 t23 t24 t25 H => pLss t25 t24 H fun t26 H =>
  onBool t26 (pIa 4 t23 t25 H fun t27 H =>
  ldK (.some 4) H t27 fun t28 H =>
  pNew [(.int .i64 (.ofNat 0)), (.int .i64 (.ofNat 0)), (.int .i64 (.ofNat 0)), (.int .i64 (.ofNat 0))] H fun t9 H =>
  stK 4 H t9 t28 fun _ H =>
  pFa 3 t9 H fun t29 H =>
  ldK .none H t29 fun t30 H =>
  pLss t30 (.int .i64 (.ofNat 0)) H fun t31 H =>
  guardA t31 false (pFa 3 t9 H fun t33 H =>
  ldK .none H t33 fun t34 H =>
  pFa 5 t1 H fun t35 H =>
  ldK .none H t35 fun t36 H =>
  pO (aLen .sl H t36) H fun t37 H =>
  pGeq t34 t37 H fun t38 H =>
  S130_4 call q1 t1 t3 t6 t9 t23 t24 t25 t31 t38 H) (S130_4 call q1 t1 t3 t6 t9 t23 t24 t25 t31 U H)) (some (t6, H))) n
noncomputable def S130_5 (call : CallFn) (t0 t1 t2 t3 : AV) (H : AHeap) : R :=
  pFa 5 t1 H fun t13 H =>
  ldK .none H t13 fun t14 H =>
  pIa 5 t14 t0 H fun t16 H =>
  ldK (.some 5) H t16 fun t17 H =>
  pNew [(.int .i64 (.ofNat 0)), (.int .i64 (.ofNat 0)), (.int .i64 (.ofNat 0)), (.int .i64 (.ofNat 0)), (.int .i64 (.ofNat 0))] H fun t7 H =>
  stK 5 H t7 t17 fun _ H =>
  pFa 0 t7 H fun t18 H =>
  ldK .none H t18 fun t19 H =>
  pEql t19 (.int .i64 (.ofNat 41)) H fun t20 H =>
  onBool t20 (ldK (.some 6) H t2 fun t21 H =>
  ldK (.some 5) H t7 fun t22 H =>
  pC call 131 [t21, t22] H fun t23 H =>
  pO (aLen .sl H t23) H fun t24 H =>
  S130_2 call 1000000 t1 t3 (.int .u64 (.ofNat 0)) t23 t24 (.int .i64 (.ofNat 0)) H) (S130_1 call t0 t1 t2 t3 (.int .u64 (.ofNat 0)) H)
noncomputable def S130 : Ff := ⟨fun call l H => argA4 (fun t0 t1 t2 t3 => S130_5 call t0 t1 t2 t3 H) l⟩
/- gantline/live.bitsOf -/
noncomputable def S132_1 (_ : CallFn) (q0 : AV → AV → AV → AV → AHeap → R) (t3 t6 t7 t8 : AV) (H : AHeap) : R :=
  pAdd t8 (.int .i64 (.ofNat 1)) H fun t23 H =>
  q0 t3 t6 t7 t23 H
noncomputable def S132_2 (call : CallFn) (q0 : AV → AV → AV → AV → AHeap → R) (t3 t5 t6 t7 t8 t14 t16 : AV) (H : AHeap) : R :=
  pPick t14 t16 (.bool false) H fun t17 H =>
  onBool t17 (pConv .u64 t5 H fun t20 H =>
  pO (aBin .shl (.int .u64 (.ofNat 1)) t20) H fun t21 H =>
  pOr t3 t21 H fun t22 H =>
  S132_1 call q0 t22 t6 t7 t8 H) (S132_1 call q0 t3 t6 t7 t8 H)
noncomputable def S132_0 (call : CallFn) (n : Nat) : AV → AV → AV → AV → AHeap → R :=
  Nat.rec (motive := fun _ => AV → AV → AV → AV → AHeap → R) (fun _ _ _ _ _ => none) (fun _ q0 t3 t6 t7 t8 H => pLss t8 t7 H fun t9 H =>
  onBool t9 (pIa 1 t6 t8 H fun t10 H =>
  ldK .none H t10 fun t11 H =>
  pGeq t11 (.int .i64 (.ofNat 0)) H fun t13 H =>
  guardA t13 true (pLss t11 (.int .i64 (.ofNat 64)) H fun t16 H =>
  S132_2 call q0 t3 t11 t6 t7 t8 t13 t16 H) (S132_2 call q0 t3 t11 t6 t7 t8 t13 U H)) (some (t3, H))) n
noncomputable def S132_3 (call : CallFn) (t0 : AV) (H : AHeap) : R :=
  pO (aLen .sl H t0) H fun t7 H =>
  S132_0 call 1000000 (.int .u64 (.ofNat 0)) t0 t7 (.int .i64 (.ofNat 0)) H
noncomputable def S132 : Ff := ⟨fun call l H => argA1 (fun t0 => S132_3 call t0 H) l⟩
/- gantline/live.Follows -/
noncomputable def S133_0 (call : CallFn) (t4 t7 : AV) (H : AHeap) : R :=
  pC call 108 [t7, (.fn 197 [] [t4])] H fun t63 H =>
  pC call 198 [t63] H fun _ H =>
  pC call 199 [t63] H fun t67 H =>
  some (t67, H)
noncomputable def S133_1 (call : CallFn) (n : Nat) : AV → AV → AV → AV → AV → AHeap → R :=
  Nat.rec (motive := fun _ => AV → AV → AV → AV → AV → AHeap → R) (fun _ _ _ _ _ _ => none) (fun _ q0 t4 t7 t49 t50 t51 H => pLss t51 t50 H fun t52 H =>
  onBool t52 (pIa 4 t49 t51 H fun t53 H =>
  ldK (.some 4) H t53 fun t54 H =>
  pNew [(.int .i64 (.ofNat 0)), (.int .i64 (.ofNat 0)), (.int .i64 (.ofNat 0)), (.int .i64 (.ofNat 0))] H fun t10 H =>
  stK 4 H t10 t54 fun _ H =>
  pFa 3 t10 H fun t56 H =>
  ldK .none H t56 fun t57 H =>
  pN (aBsl 1 1 [(.int .i64 (.ofNat 0))] [(0, 1, t57)]) H fun t58 H =>
  pW (aApp 1 8 H t7 t58) fun t59 H =>
  pAdd t51 (.int .i64 (.ofNat 1)) H fun t60 H =>
  q0 t4 t59 t49 t50 t60 H) (S133_0 call t4 t7 H)) n
noncomputable def S133_2 (call : CallFn) (t2 t3 t4 t7 t8 t26 t42 : AV) (H : AHeap) : R :=
  onBool t42 (S133_0 call t4 t7 H) (pEql t26 (.int .i64 (.ofNat 41)) H fun t46 H =>
  onBool t46 (ldK (.some 6) H t3 fun t47 H =>
  ldK (.some 5) H t8 fun t48 H =>
  pC call 131 [t47, t48] H fun t49 H =>
  pO (aLen .sl H t49) H fun t50 H =>
  S133_1 call 1000000 t4 t7 t49 t50 (.int .i64 (.ofNat 0)) H) (pAdd t2 (.int .i64 (.ofNat 1)) H fun t28 H =>
  pN (aBsl 1 1 [(.int .i64 (.ofNat 0))] [(0, 1, t28)]) H fun t29 H =>
  S133_0 call t4 t29 H))
noncomputable def S133_3 (call : CallFn) (t2 t3 t4 t13 t18 : AV) (H : AHeap) : R :=
  pPick t13 (.bool true) t18 H fun t19 H =>
  onBool t19 (some (.nilsl, H)) (pFa 5 t4 H fun t20 H =>
  ldK .none H t20 fun t21 H =>
  pIa 5 t21 t2 H fun t23 H =>
  ldK (.some 5) H t23 fun t24 H =>
  pNew [(.int .i64 (.ofNat 0)), (.int .i64 (.ofNat 0)), (.int .i64 (.ofNat 0)), (.int .i64 (.ofNat 0)), (.int .i64 (.ofNat 0))] H fun t8 H =>
  stK 5 H t8 t24 fun _ H =>
  pFa 0 t8 H fun t25 H =>
  ldK .none H t25 fun t26 H =>
  pEql t26 (.int .i64 (.ofNat 18)) H fun t31 H =>
  onBool t31 (pFa 1 t8 H fun t32 H =>
  ldK .none H t32 fun t33 H =>
  pN (aBsl 1 1 [(.int .i64 (.ofNat 0))] [(0, 1, t33)]) H fun t34 H =>
  S133_0 call t4 t34 H) (pEql t26 (.int .i64 (.ofNat 19)) H fun t36 H =>
  onBool t36 (pFa 2 t8 H fun t37 H =>
  ldK .none H t37 fun t38 H =>
  pAdd t2 (.int .i64 (.ofNat 1)) H fun t40 H =>
  pN (aBsl 1 2 [(.int .i64 (.ofNat 0))] [(0, 1, t38), (1, 1, t40)]) H fun t41 H =>
  S133_0 call t4 t41 H) (pEql t26 (.int .i64 (.ofNat 22)) H fun t43 H =>
  onBool t43 (S133_2 call t2 t3 t4 .nilsl t8 t26 t43 H) (pEql t26 (.int .i64 (.ofNat 44)) H fun t44 H =>
  S133_2 call t2 t3 t4 .nilsl t8 t26 t44 H))))
noncomputable def S133_4 (call : CallFn) (t0 t1 t2 : AV) (H : AHeap) : R :=
  pBox t0 H fun t3 H =>
  pBox t1 H fun t4 H =>
  pLss t2 (.int .i64 (.ofNat 0)) H fun t12 H =>
  guardA t12 false (pFa 5 t4 H fun t15 H =>
  ldK .none H t15 fun t16 H =>
  pO (aLen .sl H t16) H fun t17 H =>
  pGeq t2 t17 H fun t18 H =>
  S133_3 call t2 t3 t4 t12 t18 H) (S133_3 call t2 t3 t4 t12 U H)
noncomputable def S133 : Ff := ⟨fun call l H => argA3 (fun t0 t1 t2 => S133_4 call t0 t1 t2 H) l⟩
/- gantline/live.Reads -/
noncomputable def S134_0 (call : CallFn) (t2 t3 t5 t142 t144 : AV) (H : AHeap) : R :=
  pPick t142 (.bool true) t144 H fun t145 H =>
  onBool t145 (pFa 1 t3 H fun t146 H =>
  ldK .none H t146 fun t147 H =>
  pFa 2 t3 H fun t148 H =>
  ldK .none H t148 fun t149 H =>
  pFa 3 t3 H fun t150 H =>
  ldK .none H t150 fun t151 H =>
  pN (aBsl 1 3 [(.int .i64 (.ofNat 0))] [(0, 1, t147), (1, 1, t149), (2, 1, t151)]) H fun t152 H =>
  some (t152, H)) (pEql t5 (.int .i64 (.ofNat 36)) H fun t155 H =>
  onBool t155 (pFa 3 t3 H fun t156 H =>
  ldK .none H t156 fun t157 H =>
  ldK (.some 6) H t2 fun t158 H =>
  pFa 2 t3 H fun t159 H =>
  ldK .none H t159 fun t160 H =>
  pC call 201 [t158, t160] H fun t161 H =>
  andR (andB (ckV (aLoad .none H t156) t157) true) (
  pO (aFld 1 .none t161) H fun t162 H =>
  pC call 200 [t157, t162] H fun t163 H =>
  some (t163, H))) (pEql t5 (.int .i64 (.ofNat 38)) H fun t166 H =>
  onBool t166 (pFa 1 t3 H fun t167 H =>
  ldK .none H t167 fun t168 H =>
  pFa 2 t3 H fun t169 H =>
  ldK .none H t169 fun t170 H =>
  pN (aBsl 1 2 [(.int .i64 (.ofNat 0))] [(0, 1, t168), (1, 1, t170)]) H fun t171 H =>
  some (t171, H)) (pEql t5 (.int .i64 (.ofNat 41)) H fun t174 H =>
  onBool t174 (ldK (.some 6) H t2 fun t175 H =>
  ldK (.some 5) H t3 fun t176 H =>
  pC call 131 [t175, t176] H fun t177 H =>
  pC call 203 [t177] H fun t178 H =>
  some (t178, H)) (some (.nilsl, H)))))
noncomputable def S134_1 (call : CallFn) (t2 t3 t5 t130 t132 : AV) (H : AHeap) : R :=
  pPick t130 (.bool true) t132 H fun t133 H =>
  onBool t133 (pFa 1 t3 H fun t134 H =>
  ldK .none H t134 fun t135 H =>
  pFa 3 t3 H fun t136 H =>
  ldK .none H t136 fun t137 H =>
  pN (aBsl 1 2 [(.int .i64 (.ofNat 0))] [(0, 1, t135), (1, 1, t137)]) H fun t138 H =>
  some (t138, H)) (pEql t5 (.int .i64 (.ofNat 31)) H fun t141 H =>
  guardA t141 false (pEql t5 (.int .i64 (.ofNat 32)) H fun t144 H =>
  S134_0 call t2 t3 t5 t141 t144 H) (S134_0 call t2 t3 t5 t141 U H))
noncomputable def S134_2 (call : CallFn) (t2 t3 t5 t120 t122 : AV) (H : AHeap) : R :=
  pPick t120 (.bool true) t122 H fun t123 H =>
  onBool t123 (pFa 3 t3 H fun t124 H =>
  ldK .none H t124 fun t125 H =>
  pN (aBsl 1 1 [(.int .i64 (.ofNat 0))] [(0, 1, t125)]) H fun t126 H =>
  some (t126, H)) (pEql t5 (.int .i64 (.ofNat 28)) H fun t129 H =>
  guardA t129 false (pEql t5 (.int .i64 (.ofNat 29)) H fun t132 H =>
  S134_1 call t2 t3 t5 t129 t132 H) (S134_1 call t2 t3 t5 t129 U H))
noncomputable def S134_3 (call : CallFn) (t2 t3 t5 t57 t59 : AV) (H : AHeap) : R :=
  pPick t57 (.bool true) t59 H fun t60 H =>
  onBool t60 (pFa 1 t3 H fun t61 H =>
  ldK .none H t61 fun t62 H =>
  pN (aBsl 1 1 [(.int .i64 (.ofNat 0))] [(0, 1, t62)]) H fun t63 H =>
  some (t63, H)) (pEql t5 (.int .i64 (.ofNat 20)) H fun t66 H =>
  onBool t66 (pFa 3 t3 H fun t67 H =>
  ldK .none H t67 fun t68 H =>
  ldK (.some 6) H t2 fun t69 H =>
  pFa 2 t3 H fun t70 H =>
  ldK .none H t70 fun t71 H =>
  pC call 201 [t69, t71] H fun t72 H =>
  andR (andB (ckV (aLoad .none H t67) t68) true) (
  pO (aFld 0 .none t72) H fun t73 H =>
  pC call 200 [t68, t73] H fun t74 H =>
  some (t74, H))) (pEql t5 (.int .i64 (.ofNat 21)) H fun t77 H =>
  onBool t77 (pFa 2 t3 H fun t78 H =>
  ldK .none H t78 fun t79 H =>
  pN (aBsl 1 1 [(.int .i64 (.ofNat 0))] [(0, 1, t79)]) H fun t80 H =>
  pFa 3 t3 H fun t81 H =>
  ldK .none H t81 fun t82 H =>
  pFa 4 t3 H fun t83 H =>
  ldK .none H t83 fun t84 H =>
  pC call 200 [t82, t84] H fun t85 H =>
  andR (andB (ckV (aLoad .none H t78) t79) true) (
  pW (aApp 1 8 H t80 t85) fun t86 H =>
  some (t86, H))) (pEql t5 (.int .i64 (.ofNat 22)) H fun t89 H =>
  onBool t89 (pFa 1 t3 H fun t90 H =>
  ldK .none H t90 fun t91 H =>
  pN (aBsl 1 1 [(.int .i64 (.ofNat 0))] [(0, 1, t91)]) H fun t92 H =>
  pC call 202 [t92] H fun t93 H =>
  some (t93, H)) (pEql t5 (.int .i64 (.ofNat 23)) H fun t96 H =>
  onBool t96 (pFa 2 t3 H fun t97 H =>
  ldK .none H t97 fun t98 H =>
  ldK (.some 6) H t2 fun t99 H =>
  pFa 1 t3 H fun t100 H =>
  ldK .none H t100 fun t101 H =>
  pC call 201 [t99, t101] H fun t102 H =>
  andR (andB (ckV (aLoad .none H t97) t98) true) (
  pO (aFld 0 .none t102) H fun t103 H =>
  pC call 200 [t98, t103] H fun t104 H =>
  some (t104, H))) (pEql t5 (.int .i64 (.ofNat 24)) H fun t107 H =>
  onBool t107 (pFa 1 t3 H fun t108 H =>
  ldK .none H t108 fun t109 H =>
  pN (aBsl 1 1 [(.int .i64 (.ofNat 0))] [(0, 1, t109)]) H fun t110 H =>
  pFa 2 t3 H fun t111 H =>
  ldK .none H t111 fun t112 H =>
  pFa 3 t3 H fun t113 H =>
  ldK .none H t113 fun t114 H =>
  pC call 200 [t112, t114] H fun t115 H =>
  andR (andB (ckV (aLoad .none H t108) t109) true) (
  pW (aApp 1 8 H t110 t115) fun t116 H =>
  some (t116, H))) (pEql t5 (.int .i64 (.ofNat 26)) H fun t119 H =>
  guardA t119 false (pEql t5 (.int .i64 (.ofNat 37)) H fun t122 H =>
  S134_2 call t2 t3 t5 t119 t122 H) (S134_2 call t2 t3 t5 t119 U H)))))))
noncomputable def S134_4 (call : CallFn) (t2 t3 t5 t53 t55 : AV) (H : AHeap) : R :=
  pPick t53 (.bool true) t55 H fun t56 H =>
  guardA t56 false (pEql t5 (.int .i64 (.ofNat 42)) H fun t59 H =>
  S134_3 call t2 t3 t5 t56 t59 H) (S134_3 call t2 t3 t5 t56 U H)
noncomputable def S134_5 (call : CallFn) (t2 t3 t5 t41 t43 : AV) (H : AHeap) : R :=
  pPick t41 (.bool true) t43 H fun t44 H =>
  onBool t44 (pFa 2 t3 H fun t45 H =>
  ldK .none H t45 fun t46 H =>
  pFa 3 t3 H fun t47 H =>
  ldK .none H t47 fun t48 H =>
  pN (aBsl 1 2 [(.int .i64 (.ofNat 0))] [(0, 1, t46), (1, 1, t48)]) H fun t49 H =>
  some (t49, H)) (pEql t5 (.int .i64 (.ofNat 19)) H fun t52 H =>
  guardA t52 false (pEql t5 (.int .i64 (.ofNat 40)) H fun t55 H =>
  S134_4 call t2 t3 t5 t52 t55 H) (S134_4 call t2 t3 t5 t52 U H))
noncomputable def S134_6 (call : CallFn) (t2 t3 t5 t37 t39 : AV) (H : AHeap) : R :=
  pPick t37 t39 (.bool false) H fun t40 H =>
  guardA t40 false (pEql t5 (.int .i64 (.ofNat 30)) H fun t43 H =>
  S134_5 call t2 t3 t5 t40 t43 H) (S134_5 call t2 t3 t5 t40 U H)
noncomputable def S134_7 (call : CallFn) (t2 t3 t5 t27 t29 : AV) (H : AHeap) : R :=
  pPick t27 (.bool true) t29 H fun t30 H =>
  onBool t30 (pFa 2 t3 H fun t31 H =>
  ldK .none H t31 fun t32 H =>
  pN (aBsl 1 1 [(.int .i64 (.ofNat 0))] [(0, 1, t32)]) H fun t33 H =>
  some (t33, H)) (pGeq t5 (.int .i64 (.ofNat 3)) H fun t36 H =>
  guardA t36 true (pLeq t5 (.int .i64 (.ofNat 16)) H fun t39 H =>
  S134_6 call t2 t3 t5 t36 t39 H) (S134_6 call t2 t3 t5 t36 U H))
noncomputable def S134_8 (call : CallFn) (t2 t3 t5 t23 t25 : AV) (H : AHeap) : R :=
  pPick t23 (.bool true) t25 H fun t26 H =>
  guardA t26 false (pEql t5 (.int .i64 (.ofNat 39)) H fun t29 H =>
  S134_7 call t2 t3 t5 t26 t29 H) (S134_7 call t2 t3 t5 t26 U H)
noncomputable def S134_9 (call : CallFn) (t2 t3 t5 t19 t21 : AV) (H : AHeap) : R :=
  pPick t19 (.bool true) t21 H fun t22 H =>
  guardA t22 false (pEql t5 (.int .i64 (.ofNat 27)) H fun t25 H =>
  S134_8 call t2 t3 t5 t22 t25 H) (S134_8 call t2 t3 t5 t22 U H)
noncomputable def S134_10 (call : CallFn) (t2 t3 t5 t15 t17 : AV) (H : AHeap) : R :=
  pPick t15 (.bool true) t17 H fun t18 H =>
  guardA t18 false (pEql t5 (.int .i64 (.ofNat 35)) H fun t21 H =>
  S134_9 call t2 t3 t5 t18 t21 H) (S134_9 call t2 t3 t5 t18 U H)
noncomputable def S134_11 (call : CallFn) (t2 t3 t5 t11 t13 : AV) (H : AHeap) : R :=
  pPick t11 (.bool true) t13 H fun t14 H =>
  guardA t14 false (pEql t5 (.int .i64 (.ofNat 33)) H fun t17 H =>
  S134_10 call t2 t3 t5 t14 t17 H) (S134_10 call t2 t3 t5 t14 U H)
noncomputable def S134_12 (call : CallFn) (t0 t1 : AV) (H : AHeap) : R :=
  pBox t0 H fun t2 H =>
  pBox t1 H fun t3 H =>
  pFa 0 t3 H fun t6 H =>
  ldK .none H t6 fun t7 H =>
  pEql t7 (.int .i64 (.ofNat 1)) H fun t10 H =>
  guardA t10 false (pEql t7 (.int .i64 (.ofNat 17)) H fun t13 H =>
  S134_11 call t2 t3 t7 t10 t13 H) (S134_11 call t2 t3 t7 t10 U H)
noncomputable def S134 : Ff := ⟨fun call l H => argA2 (fun t0 t1 => S134_12 call t0 t1 H) l⟩
/- gantline/live.Writes -/
noncomputable def S135_0 (call : CallFn) (t1 t3 t47 t49 : AV) (H : AHeap) : R :=
  pPick t47 (.bool true) t49 H fun t50 H =>
  onBool t50 (pFa 1 t1 H fun t51 H =>
  ldK .none H t51 fun t52 H =>
  pN (aBsl 1 1 [(.int .i64 (.ofNat 0))] [(0, 1, t52)]) H fun t53 H =>
  pC call 202 [t53] H fun t54 H =>
  some (t54, H)) (pEql t3 (.int .i64 (.ofNat 39)) H fun t57 H =>
  onBool t57 (pFa 1 t1 H fun t58 H =>
  ldK .none H t58 fun t59 H =>
  pFa 3 t1 H fun t60 H =>
  ldK .none H t60 fun t61 H =>
  pN (aBsl 1 2 [(.int .i64 (.ofNat 0))] [(0, 1, t59), (1, 1, t61)]) H fun t62 H =>
  pC call 202 [t62] H fun t63 H =>
  some (t63, H)) (some (.nilsl, H)))
noncomputable def S135_1 (call : CallFn) (t1 t3 t37 t39 : AV) (H : AHeap) : R :=
  pPick t37 (.bool true) t39 H fun t40 H =>
  onBool t40 (pFa 1 t1 H fun t41 H =>
  ldK .none H t41 fun t42 H =>
  pN (aBsl 1 1 [(.int .i64 (.ofNat 0))] [(0, 1, t42)]) H fun t43 H =>
  some (t43, H)) (pEql t3 (.int .i64 (.ofNat 20)) H fun t46 H =>
  guardA t46 false (pEql t3 (.int .i64 (.ofNat 21)) H fun t49 H =>
  S135_0 call t1 t3 t46 t49 H) (S135_0 call t1 t3 t46 U H))
noncomputable def S135_2 (call : CallFn) (t1 t3 t33 t35 : AV) (H : AHeap) : R :=
  pPick t33 (.bool true) t35 H fun t36 H =>
  guardA t36 false (pEql t3 (.int .i64 (.ofNat 37)) H fun t39 H =>
  S135_1 call t1 t3 t36 t39 H) (S135_1 call t1 t3 t36 U H)
noncomputable def S135_3 (call : CallFn) (t1 t3 t29 t31 : AV) (H : AHeap) : R :=
  pPick t29 (.bool true) t31 H fun t32 H =>
  guardA t32 false (pEql t3 (.int .i64 (.ofNat 36)) H fun t35 H =>
  S135_2 call t1 t3 t32 t35 H) (S135_2 call t1 t3 t32 U H)
noncomputable def S135_4 (call : CallFn) (t1 t3 t25 t27 : AV) (H : AHeap) : R :=
  pPick t25 (.bool true) t27 H fun t28 H =>
  guardA t28 false (pEql t3 (.int .i64 (.ofNat 34)) H fun t31 H =>
  S135_3 call t1 t3 t28 t31 H) (S135_3 call t1 t3 t28 U H)
noncomputable def S135_5 (call : CallFn) (t1 t3 t21 t23 : AV) (H : AHeap) : R :=
  pPick t21 (.bool true) t23 H fun t24 H =>
  guardA t24 false (pEql t3 (.int .i64 (.ofNat 33)) H fun t27 H =>
  S135_4 call t1 t3 t24 t27 H) (S135_4 call t1 t3 t24 U H)
noncomputable def S135_6 (call : CallFn) (t1 t3 t13 t19 : AV) (H : AHeap) : R :=
  pPick t13 (.bool true) t19 H fun t20 H =>
  guardA t20 false (pEql t3 (.int .i64 (.ofNat 30)) H fun t23 H =>
  S135_5 call t1 t3 t20 t23 H) (S135_5 call t1 t3 t20 U H)
noncomputable def S135_7 (call : CallFn) (t1 t3 t13 t16 t18 : AV) (H : AHeap) : R :=
  guardA t13 false (pPick t16 t18 (.bool false) H fun t19 H =>
  S135_6 call t1 t3 t13 t19 H) (S135_6 call t1 t3 t13 U H)
noncomputable def S135_8 (call : CallFn) (t1 t3 t13 t16 : AV) (H : AHeap) : R :=
  guardA t16 true (pLeq t3 (.int .i64 (.ofNat 27)) H fun t18 H =>
  S135_7 call t1 t3 t13 t16 t18 H) (S135_7 call t1 t3 t13 t16 U H)
noncomputable def S135_9 (call : CallFn) (t1 t3 t9 t11 : AV) (H : AHeap) : R :=
  pPick t9 t11 (.bool false) H fun t12 H =>
  guardA t12 false (pGeq t3 (.int .i64 (.ofNat 25)) H fun t15 H =>
  S135_8 call t1 t3 t12 t15 H) (S135_8 call t1 t3 t12 U H)
noncomputable def S135_10 (call : CallFn) (t0 : AV) (H : AHeap) : R :=
  pBox t0 H fun t1 H =>
  pFa 0 t1 H fun t4 H =>
  ldK .none H t4 fun t5 H =>
  pGeq t5 (.int .i64 (.ofNat 0)) H fun t8 H =>
  guardA t8 true (pLeq t5 (.int .i64 (.ofNat 17)) H fun t11 H =>
  S135_9 call t1 t5 t8 t11 H) (S135_9 call t1 t5 t8 U H)
noncomputable def S135 : Ff := ⟨fun call l H => argA1 (fun t0 => S135_10 call t0 H) l⟩
/- maps.Keys[map[int]*gantline/frame.Stack,int,*gantline/frame.Stack] -/
noncomputable def S142_0 (_ : CallFn) (t0 : AV) (H : AHeap) : R :=
  pBox t0 H fun t1 H =>
  some ((.fn 205 [] [t1]), H)
noncomputable def S142 : Ff := ⟨fun call l H => argA1 (fun t0 => S142_0 call t0 H) l⟩
/- gantline/verify.Without -/
noncomputable def S143_0 (_ : CallFn) (t4 : AV) (H : AHeap) : R :=
  pO (someAgg (aFill [(.int .i64 (.ofNat 0)), (.int .i64 (.ofNat 0)), (.int .i64 (.ofNat 0))] [])) H fun t92 H =>
  stK 3 H t4 t92 fun _ H =>
  ob (allM (fun o => o) [aLoad (.some 3) H t4, some (.bool true)]) fun vs => some (resV vs, H)
noncomputable def S143_2 (_ : CallFn) (q0 : AV → AV → AV → AV → AV → AV → AV → AHeap → R) (t1 t2 t4 t9 t41 t42 t43 : AV) (H : AHeap) : R :=
  pAdd t43 (.int .i64 (.ofNat 1)) H fun t91 H =>
  q0 t1 t2 t4 t9 t41 t42 t91 H
noncomputable def S143_4 (_ : CallFn) (q1 : AV → AV → AV → AV → AV → AV → AV → AV → AV → AV → AV → AV → AHeap → R) (t1 t2 t4 t9 t10 t12 t41 t42 t43 t57 t58 t59 : AV) (H : AHeap) : R :=
  pAdd t59 (.int .i64 (.ofNat 1)) H fun t90 H =>
  q1 t1 t2 t4 t9 t10 t12 t41 t42 t43 t57 t58 t90 H
noncomputable def S143_6 (_ : CallFn) (q2 : AV → AV → AV → AV → AV → AV → AV → AV → AV → AV → AV → AV → AV → AV → AHeap → R) (t1 t2 t4 t9 t10 t12 t13 t15 t41 t42 t43 t57 t58 t59 t80 t84 : AV) (H : AHeap) : R :=
  pPick t80 t84 (.bool false) H fun t85 H =>
  onBool t85 (pO (someAgg (aFill [(.int .i64 (.ofNat 0)), (.int .i64 (.ofNat 0)), (.int .i64 (.ofNat 0))] [(0, 1, t10), (1, 1, t13), (2, 1, t15)])) H fun t89 H =>
  stK 3 H t4 t89 fun _ H =>
  ob (allM (fun o => o) [aLoad (.some 3) H t4, some (.bool false)]) fun vs => some (resV vs, H)) (pAdd t15 (.int .i64 (.ofNat 1)) H fun t75 H =>
  q2 t1 t2 t4 t9 t10 t12 t13 t75 t41 t42 t43 t57 t58 t59 H)
noncomputable def S143_5 (call : CallFn) (q1 : AV → AV → AV → AV → AV → AV → AV → AV → AV → AV → AV → AV → AHeap → R) (n : Nat) : AV → AV → AV → AV → AV → AV → AV → AV → AV → AV → AV → AV → AV → AV → AHeap → R :=
  Nat.rec (motive := fun _ => AV → AV → AV → AV → AV → AV → AV → AV → AV → AV → AV → AV → AV → AV → AHeap → R) (fun _ _ _ _ _ _ _ _ _ _ _ _ _ _ _ => none) (fun _ q2 t1 t2 t4 t9 t10 t12 t13 t15 t41 t42 t43 t57 t58 t59 H => pLeq t15 (.int .i64 (.ofNat 10)) H fun t73 H =>
  onBool t73 (pC call 185 [t1, t15] H fun t78 H =>
  pO (aUn .not t78) H fun t79 H =>
  guardA t79 true (pC call 208 [t12, t15] H fun t83 H =>
  pO (aUn .not t83) H fun t84 H =>
  S143_6 call q2 t1 t2 t4 t9 t10 t12 t13 t15 t41 t42 t43 t57 t58 t59 t79 t84 H) (S143_6 call q2 t1 t2 t4 t9 t10 t12 t13 t15 t41 t42 t43 t57 t58 t59 t79 U H)) (S143_4 call q1 t1 t2 t4 t9 t10 t12 t41 t42 t43 t57 t58 t59 H)) n
noncomputable def S143_3 (call : CallFn) (q0 : AV → AV → AV → AV → AV → AV → AV → AHeap → R) (n : Nat) : AV → AV → AV → AV → AV → AV → AV → AV → AV → AV → AV → AV → AHeap → R :=
  Nat.rec (motive := fun _ => AV → AV → AV → AV → AV → AV → AV → AV → AV → AV → AV → AV → AHeap → R) (fun _ _ _ _ _ _ _ _ _ _ _ _ _ => none) (fun _ q1 t1 t2 t4 t9 t10 t12 t41 t42 t43 t57 t58 t59 H => pLss t59 t58 H fun t60 H =>
  onBool t60 (pIa 5 t57 t59 H fun t62 H =>
  ldK (.some 5) H t62 fun t63 H =>
  pNew [(.int .i64 (.ofNat 0)), (.int .i64 (.ofNat 0)), (.int .i64 (.ofNat 0)), (.int .i64 (.ofNat 0)), (.int .i64 (.ofNat 0))] H fun t14 H =>
  stK 5 H t14 t63 fun _ H =>
  ldK (.some 5) H t14 fun t67 H =>
  pO (aNil t12) H fun t68 H =>
  pFa 16 t68 H fun t69 H =>
  stK 1 H t69 t59 fun _ H =>
  andR (andB (ckV (aLoad (.some 5) H t14) t67) true) (
  pO (aNil t12) H fun t70 H =>
  pFa 17 t70 H fun t71 H =>
  stK 5 H t71 t67 fun _ H =>
  S143_5 call q1 1000000 t1 t2 t4 t9 t10 t12 t59 (.int .i64 (.ofNat 4)) t41 t42 t43 t57 t58 t59 H)) (S143_2 call q0 t1 t2 t4 t9 t41 t42 t43 H)) n
noncomputable def S143_1 (call : CallFn) (n : Nat) : AV → AV → AV → AV → AV → AV → AV → AHeap → R :=
  Nat.rec (motive := fun _ => AV → AV → AV → AV → AV → AV → AV → AHeap → R) (fun _ _ _ _ _ _ _ _ => none) (fun _ q0 t1 t2 t4 t9 t41 t42 t43 H => pLss t43 t42 H fun t44 H =>
  onBool t44 (pIa 7 t41 t43 H fun t46 H =>
  ldK (.some 7) H t46 fun t47 H =>
  pNew [(.int .i64 (.ofNat 0)), (.int .i64 (.ofNat 0)), (.int .i64 (.ofNat 0)), (.int .i64 (.ofNat 0)), .nilsl, .nilsl, .nilsl] H fun t11 H =>
  stK 7 H t11 t47 fun _ H =>
  ldK (.some 6) H t2 fun t48 H =>
  ldK (.some 7) H t11 fun t49 H =>
  ldK (.some 6) H t2 fun t50 H =>
  ldK (.some 7) H t11 fun t51 H =>
  pC call 31 [t50, t51] H fun t52 H =>
  andR (andB (ckV (aLoad (.some 6) H t2) t48) (andB (ckV (aLoad (.some 7) H t11) t49) true)) (
  pO (someAgg (aFill [.nilsl, .nilsl, .nilsl, .nilsl, .nilsl, (.int .i64 (.ofNat 0)), (.int .i64 (.ofNat 0)), (.int .i64 (.ofNat 0)), (.int .i64 (.ofNat 0)), (.int .i64 (.ofNat 0)), .nilsl, .nilsl, .nilsl, .nilsl, .nilsl, .nilsl, (.int .i64 (.ofNat 0)), (.int .i64 (.ofNat 0)), (.int .i64 (.ofNat 0)), (.int .i64 (.ofNat 0)), (.int .i64 (.ofNat 0)), (.int .i64 (.ofNat 0))] [(0, 6, t48), (6, 7, t49), (13, 1, t52), (15, 1, t9)])) H fun t54 H =>
  pBox t54 H fun t55 H =>
  pFa 5 t11 H fun t56 H =>
  ldK .none H t56 fun t57 H =>
  pO (aLen .sl H t57) H fun t58 H =>
  S143_3 call q0 1000000 t1 t2 t4 t9 t43 t55 t41 t42 t43 t57 t58 (.int .i64 (.ofNat 0)) H)) (S143_0 call t4 H)) n
noncomputable def S143_7 (call : CallFn) (t1 t2 t4 : AV) (H : AHeap) : R :=
  pFa 3 t2 H fun t36 H =>
  ldK .none H t36 fun t37 H =>
  pO (aLen .sl H t37) H fun t38 H =>
  pN (aMksl 1 1 [(.bool false)] t38 t38) H fun t39 H =>
  pFa 4 t2 H fun t40 H =>
  ldK .none H t40 fun t41 H =>
  pO (aLen .sl H t41) H fun t42 H =>
  S143_1 call 1000000 t1 t2 t4 t39 t41 t42 (.int .i64 (.ofNat 0)) H
noncomputable def S143_8 (call : CallFn) (n : Nat) : AV → AV → AV → AV → AV → AV → AHeap → R :=
  Nat.rec (motive := fun _ => AV → AV → AV → AV → AV → AV → AHeap → R) (fun _ _ _ _ _ _ _ => none) (fun _ q3 t1 t2 t4 t23 t24 t25 H => pLss t25 t24 H fun t26 H =>
  onBool t26 (pIa 7 t23 t25 H fun t28 H =>
  ldK (.some 7) H t28 fun t29 H =>
  pNew [(.int .i64 (.ofNat 0)), (.int .i64 (.ofNat 0)), (.int .i64 (.ofNat 0)), (.int .i64 (.ofNat 0)), .nilsl, .nilsl, .nilsl] H fun t8 H =>
  stK 7 H t8 t29 fun _ H =>
  ldK (.some 7) H t8 fun t30 H =>
  pC call 207 [t30] H fun t31 H =>
  pO (aUn .not t31) H fun t32 H =>
  onBool t32 (pO (someAgg (aFill [(.int .i64 (.ofNat 0)), (.int .i64 (.ofNat 0)), (.int .i64 (.ofNat 0))] [(0, 1, t25), (1, 1, (.int .i64 (.negSucc 0))), (2, 1, (.int .i64 (.ofNat 3)))])) H fun t34 H =>
  stK 3 H t4 t34 fun _ H =>
  ob (allM (fun o => o) [aLoad (.some 3) H t4, some (.bool false)]) fun vs => some (resV vs, H)) (pAdd t25 (.int .i64 (.ofNat 1)) H fun t35 H =>
  q3 t1 t2 t4 t23 t24 t35 H)) (S143_7 call t1 t2 t4 H)) n
noncomputable def S143_9 (call : CallFn) (t0 t1 : AV) (H : AHeap) : R :=
  pBox t0 H fun t2 H =>
  pNew [(.int .i64 (.ofNat 0)), (.int .i64 (.ofNat 0)), (.int .i64 (.ofNat 0))] H fun t4 H =>
  ldK (.some 6) H t2 fun t16 H =>
  pC call 206 [t16] H fun t17 H =>
  pGtr t17 (.int .i64 (.ofNat 0)) H fun t19 H =>
  onBool t19 (pO (someAgg (aFill [(.int .i64 (.ofNat 0)), (.int .i64 (.ofNat 0)), (.int .i64 (.ofNat 0))] [(0, 1, (.int .i64 (.negSucc 0))), (1, 1, (.int .i64 (.negSucc 0))), (2, 1, t17)])) H fun t21 H =>
  stK 3 H t4 t21 fun _ H =>
  ob (allM (fun o => o) [aLoad (.some 3) H t4, some (.bool false)]) fun vs => some (resV vs, H)) (pFa 4 t2 H fun t22 H =>
  ldK .none H t22 fun t23 H =>
  pO (aLen .sl H t23) H fun t24 H =>
  S143_8 call 1000000 t1 t2 t4 t23 t24 (.int .i64 (.ofNat 0)) H)
noncomputable def S143 : Ff := ⟨fun call l H => argA2 (fun t0 t1 => S143_9 call t0 t1 H) l⟩
/- gantline/arena.New -/
noncomputable def S144_0 (_ : CallFn) (n : Nat) : AV → AV → AV → AHeap → R :=
  Nat.rec (motive := fun _ => AV → AV → AV → AHeap → R) (fun _ _ _ _ => none) (fun _ q0 t4 t23 t24 H => pLss t24 t23 H fun t25 H =>
  onBool t25 (pO (aNil t4) H fun t28 H =>
  pFa 1 t28 H fun t29 H =>
  ldK .none H t29 fun t30 H =>
  pIa 3 t30 t24 H fun t32 H =>
  pFa 0 t32 H fun t33 H =>
  stK 1 H t33 (.int .i64 (.negSucc 0)) fun _ H =>
  pAdd t24 (.int .i64 (.ofNat 1)) H fun t34 H =>
  q0 t4 t23 t34 H) (some (.tup [t4, (.int .i64 (.ofNat 0))], H))) n
noncomputable def S144_1 (call : CallFn) (t0 t8 t10 : AV) (H : AHeap) : R :=
  pPick t8 (.bool true) t10 H fun t11 H =>
  onBool t11 (some (.tup [.nilp, (.int .i64 (.ofNat 1))], H)) (pMul t0 (.int .i64 (.ofNat 64)) H fun t13 H =>
  pN (aMksl 1 8 [(.int .i64 (.ofNat 0))] t13 t13) H fun t14 H =>
  pN (aMksl 3 24 [(.int .i64 (.ofNat 0)), (.int .u64 (.ofNat 0)), (.int .u64 (.ofNat 0))] t0 t0) H fun t16 H =>
  pO (someAgg (aFill [.nilsl, .nilsl] [(0, 1, t14), (1, 1, t16)])) H fun t17 H =>
  pBox t17 H fun t18 H =>
  pO (aNil t18) H fun t20 H =>
  pFa 1 t20 H fun t21 H =>
  ldK .none H t21 fun t22 H =>
  pO (aLen .sl H t22) H fun t23 H =>
  S144_0 call 1000000 t18 t23 (.int .i64 (.ofNat 0)) H)
noncomputable def S144_2 (call : CallFn) (t0 : AV) (H : AHeap) : R :=
  pLss t0 (.int .i64 (.ofNat 8)) H fun t7 H =>
  guardA t7 false (pGtr t0 (.int .i64 (.ofNat 512)) H fun t10 H =>
  S144_1 call t0 t7 t10 H) (S144_1 call t0 t7 U H)
noncomputable def S144 : Ff := ⟨fun call l H => argA1 (fun t0 => S144_2 call t0 H) l⟩
/- gantline/head.New -/
noncomputable def S145_0 (_ : CallFn) (H : AHeap) : R :=
  pMap H fun t1 H =>
  pO (someAgg (aFill [.nilsl, .nilmap] [(1, 1, t1)])) H fun t2 H =>
  pBox t2 H fun t3 H =>
  some (t3, H)
noncomputable def S145 : Ff := ⟨fun call l H => argA0 (S145_0 call H) l⟩
/- gantline/alloc.New -/
noncomputable def S146_0 (call : CallFn) (t0 : AV) (H : AHeap) : R :=
  pC call 209 [t0] H fun t5 H =>
  pN (aMksl 1 1 [(.bool false)] t5 t5) H fun t6 H =>
  pO (someAgg (aFill [.nilp, .nilsl] [(0, 1, t0), (1, 1, t6)])) H fun t7 H =>
  pBox t7 H fun t8 H =>
  some (t8, H)
noncomputable def S146 : Ff := ⟨fun call l H => argA1 (fun t0 => S146_0 call t0 H) l⟩
/- gantline/mark.New -/
noncomputable def S147_0 (call : CallFn) (t0 t1 : AV) (H : AHeap) : R :=
  pC call 210 [] H fun t7 H =>
  pO (someAgg (aFill [.nilp, .nilp, .nilp] [(0, 1, t0), (1, 1, t1), (2, 1, t7)])) H fun t8 H =>
  pBox t8 H fun t9 H =>
  some (t9, H)
noncomputable def S147 : Ff := ⟨fun call l H => argA2 (fun t0 t1 => S147_0 call t0 t1 H) l⟩
/- gantline/head.Good -/
noncomputable def S148_0 (_ : CallFn) (t16 t23 : AV) (H : AHeap) : R :=
  pPick t16 t23 (.bool false) H fun t24 H =>
  some (t24, H)
noncomputable def S148_1 (call : CallFn) (t1 t11 t14 : AV) (H : AHeap) : R :=
  pPick t11 t14 (.bool false) H fun t15 H =>
  guardA t15 true (pFa 2 t1 H fun t17 H =>
  ldK .none H t17 fun t18 H =>
  pFa 1 t1 H fun t19 H =>
  ldK .none H t19 fun t20 H =>
  pConv .u64 t20 H fun t21 H =>
  pO (aBin .shr t18 t21) H fun t22 H =>
  pEql t22 (.int .u64 (.ofNat 0)) H fun t23 H =>
  S148_0 call t15 t23 H) (S148_0 call t15 U H)
noncomputable def S148_2 (_ : CallFn) (t31 t34 : AV) (H : AHeap) : R :=
  pPick t31 t34 (.bool false) H fun t35 H =>
  some (t35, H)
noncomputable def S148_3 (call : CallFn) (t1 t25 : AV) (H : AHeap) : R :=
  onBool t25 (pFa 1 t1 H fun t28 H =>
  ldK .none H t28 fun t29 H =>
  pEql t29 (.int .i64 (.ofNat 0)) H fun t30 H =>
  guardA t30 true (pFa 2 t1 H fun t32 H =>
  ldK .none H t32 fun t33 H =>
  pLeq t33 (.int .u64 (.ofNat 1)) H fun t34 H =>
  S148_2 call t30 t34 H) (S148_2 call t30 U H)) (some ((.bool false), H))
noncomputable def S148_4 (call : CallFn) (t1 t4 t5 : AV) (H : AHeap) : R :=
  onBool t5 (pFa 1 t1 H fun t8 H =>
  ldK .none H t8 fun t9 H =>
  pGeq t9 (.int .i64 (.ofNat 0)) H fun t10 H =>
  guardA t10 true (pFa 1 t1 H fun t12 H =>
  ldK .none H t12 fun t13 H =>
  pLeq t13 (.int .i64 (.ofNat 63)) H fun t14 H =>
  S148_1 call t1 t10 t14 H) (S148_1 call t1 t10 U H)) (pEql t4 (.int .i64 (.ofNat 1)) H fun t26 H =>
  onBool t26 (S148_3 call t1 t26 H) (pEql t4 (.int .i64 (.ofNat 3)) H fun t27 H =>
  S148_3 call t1 t27 H))
noncomputable def S148_5 (call : CallFn) (t0 : AV) (H : AHeap) : R :=
  pBox t0 H fun t1 H =>
  pFa 0 t1 H fun t3 H =>
  ldK .none H t3 fun t4 H =>
  pEql t4 (.int .i64 (.ofNat 0)) H fun t6 H =>
  onBool t6 (S148_4 call t1 t4 t6 H) (pEql t4 (.int .i64 (.ofNat 2)) H fun t7 H =>
  S148_4 call t1 t4 t7 H)
noncomputable def S148 : Ff := ⟨fun call l H => argA1 (fun t0 => S148_5 call t0 H) l⟩
/- gantline/frame.begin -/
noncomputable def S149_0 (_ : CallFn) (t1 t2 t6 t8 t40 t43 : AV) (H : AHeap) : R :=
  pPick t40 (.bool true) t43 H fun t44 H =>
  onBool t44 (pO (someAgg (aFill [(.int .i64 (.ofNat 0)), (.int .i64 (.ofNat 0)), .nilsl] [])) H fun t45 H =>
  stK 3 H t6 t45 fun _ H =>
  ob (allM (fun o => o) [aLoad (.some 3) H t6, some (.int .i64 (.ofNat 1))]) fun vs => some (resV vs, H)) (pFa 2 t8 H fun t46 H =>
  ldK .none H t46 fun t47 H =>
  pN (aMksl 1 8 [(.int .i64 (.ofNat 0))] t47 t47) H fun t48 H =>
  pW (aCopy 1 H t48 t2) fun _ H =>
  pO (someAgg (aFill [(.int .i64 (.ofNat 0)), (.int .i64 (.ofNat 0)), .nilsl] [(0, 1, t1), (2, 1, t48)])) H fun t54 H =>
  stK 3 H t6 t54 fun _ H =>
  ob (allM (fun o => o) [aLoad (.some 3) H t6, some (.int .i64 (.ofNat 0))]) fun vs => some (resV vs, H))
noncomputable def S149_1 (call : CallFn) (t1 t2 t6 t8 t33 t38 : AV) (H : AHeap) : R :=
  pPick t33 (.bool true) t38 H fun t39 H =>
  guardA t39 false (pFa 2 t8 H fun t41 H =>
  ldK .none H t41 fun t42 H =>
  pGtr t42 (.int .i64 (.ofNat 64)) H fun t43 H =>
  S149_0 call t1 t2 t6 t8 t39 t43 H) (S149_0 call t1 t2 t6 t8 t39 U H)
noncomputable def S149_2 (call : CallFn) (t1 t2 t3 t6 t12 t17 : AV) (H : AHeap) : R :=
  pPick t12 (.bool true) t17 H fun t18 H =>
  onBool t18 (pO (someAgg (aFill [(.int .i64 (.ofNat 0)), (.int .i64 (.ofNat 0)), .nilsl] [])) H fun t19 H =>
  stK 3 H t6 t19 fun _ H =>
  ob (allM (fun o => o) [aLoad (.some 3) H t6, some (.int .i64 (.ofNat 1))]) fun vs => some (resV vs, H)) (pFa 4 t3 H fun t20 H =>
  ldK .none H t20 fun t21 H =>
  pIa 7 t21 t1 H fun t23 H =>
  ldK (.some 7) H t23 fun t24 H =>
  pNew [(.int .i64 (.ofNat 0)), (.int .i64 (.ofNat 0)), (.int .i64 (.ofNat 0)), (.int .i64 (.ofNat 0)), .nilsl, .nilsl, .nilsl] H fun t8 H =>
  stK 7 H t8 t24 fun _ H =>
  pO (aLen .sl H t2) H fun t26 H =>
  pFa 0 t8 H fun t27 H =>
  ldK .none H t27 fun t28 H =>
  pFa 1 t8 H fun t29 H =>
  ldK .none H t29 fun t30 H =>
  pAdd t28 t30 H fun t31 H =>
  pNeq t26 t31 H fun t32 H =>
  guardA t32 false (pO (aLen .sl H t2) H fun t35 H =>
  pFa 2 t8 H fun t36 H =>
  ldK .none H t36 fun t37 H =>
  pGtr t35 t37 H fun t38 H =>
  S149_1 call t1 t2 t6 t8 t32 t38 H) (S149_1 call t1 t2 t6 t8 t32 U H))
noncomputable def S149_3 (call : CallFn) (t0 t1 t2 : AV) (H : AHeap) : R :=
  pBox t0 H fun t3 H =>
  pNew [(.int .i64 (.ofNat 0)), (.int .i64 (.ofNat 0)), .nilsl] H fun t6 H =>
  pLss t1 (.int .i64 (.ofNat 0)) H fun t11 H =>
  guardA t11 false (pFa 4 t3 H fun t14 H =>
  ldK .none H t14 fun t15 H =>
  pO (aLen .sl H t15) H fun t16 H =>
  pGeq t1 t16 H fun t17 H =>
  S149_2 call t1 t2 t3 t6 t11 t17 H) (S149_2 call t1 t2 t3 t6 t11 U H)
noncomputable def S149 : Ff := ⟨fun call l H => argA3 (fun t0 t1 t2 => S149_3 call t0 t1 t2 H) l⟩
/- (*gantline/sched.Table).offers -/
noncomputable def S150_1 (_ : CallFn) (q0 : AV → AV → AV → AV → AV → AV → AV → AV → AHeap → R) (t0 t1 t2 t10 t11 t85 t86 t87 : AV) (H : AHeap) : R :=
  pAdd t87 (.int .i64 (.ofNat 1)) H fun t113 H =>
  q0 t0 t1 t2 t10 t11 t85 t86 t113 H
noncomputable def S150_2 (call : CallFn) (q0 : AV → AV → AV → AV → AV → AV → AV → AV → AHeap → R) (t0 t1 t2 t10 t11 t12 t13 t85 t86 t87 t95 : AV) (H : AHeap) : R :=
  onBool t95 (pFa 0 t13 H fun t103 H =>
  ldK .none H t103 fun t104 H =>
  pEql t104 (.int .i64 (.ofNat 1)) H fun t105 H =>
  pFa 1 t13 H fun t106 H =>
  ldK .none H t106 fun t107 H =>
  pFa 2 t13 H fun t108 H =>
  ldK .none H t108 fun t109 H =>
  pC call 211 [t0, t1, t2, t12, t105, t107, t109] H fun t110 H =>
  pN (aBsl 4 1 [(.int .i64 (.ofNat 0)), (.bool false), (.int .i64 (.ofNat 0)), (.bool false)] [(0, 4, t110)]) H fun t111 H =>
  pW (aApp 4 32 H t10 t111) fun t112 H =>
  S150_1 call q0 t0 t1 t2 t112 t11 t85 t86 t87 H) (S150_1 call q0 t0 t1 t2 t10 t12 t85 t86 t87 H)
noncomputable def S150_0 (call : CallFn) (n : Nat) : AV → AV → AV → AV → AV → AV → AV → AV → AHeap → R :=
  Nat.rec (motive := fun _ => AV → AV → AV → AV → AV → AV → AV → AV → AHeap → R) (fun _ _ _ _ _ _ _ _ _ => none) (fun _ q0 t0 t1 t2 t10 t11 t85 t86 t87 H => pLss t87 t86 H fun t88 H =>
  onBool t88 (pIa 4 t85 t87 H fun t90 H =>
  ldK (.some 4) H t90 fun t91 H =>
  pNew [(.int .i64 (.ofNat 0)), (.int .i64 (.ofNat 0)), (.int .i64 (.ofNat 0)), (.int .i64 (.ofNat 0))] H fun t13 H =>
  stK 4 H t13 t91 fun _ H =>
  pFa 0 t13 H fun t92 H =>
  ldK .none H t92 fun t93 H =>
  pEql t93 (.int .i64 (.ofNat 0)) H fun t96 H =>
  onBool t96 (S150_2 call q0 t0 t1 t2 t10 t11 t87 t13 t85 t86 t87 t96 H) (pEql t93 (.int .i64 (.ofNat 1)) H fun t97 H =>
  S150_2 call q0 t0 t1 t2 t10 t11 t87 t13 t85 t86 t87 t97 H)) (some (.tup [t10, t11], H))) n
noncomputable def S150_3 (call : CallFn) (t0 t1 t2 t7 t59 t71 : AV) (H : AHeap) : R :=
  pPick t59 (.bool true) t71 H fun t72 H =>
  onBool t72 (some (.tup [.nilsl, (.int .i64 (.negSucc 0))], H)) (pO (aNil t0) H fun t74 H =>
  pFa 0 t74 H fun t75 H =>
  pFa 3 t75 H fun t76 H =>
  ldK .none H t76 fun t77 H =>
  pFa 1 t7 H fun t78 H =>
  ldK .none H t78 fun t79 H =>
  pFa 1 t7 H fun t80 H =>
  ldK .none H t80 fun t81 H =>
  pFa 2 t7 H fun t82 H =>
  ldK .none H t82 fun t83 H =>
  pAdd t81 t83 H fun t84 H =>
  pO (aSlice 4 H t77 (.some t79) (.some t84) .none) H fun t85 H =>
  pO (aLen .sl H t85) H fun t86 H =>
  S150_0 call 1000000 t0 t1 t2 .nilsl (.int .i64 (.negSucc 0)) t85 t86 (.int .i64 (.ofNat 0)) H)
noncomputable def S150_4 (call : CallFn) (t0 t1 t2 t7 t59 t61 t70 : AV) (H : AHeap) : R :=
  guardA t59 false (pGtr t61 t70 H fun t71 H =>
  S150_3 call t0 t1 t2 t7 t59 t71 H) (S150_3 call t0 t1 t2 t7 t59 U H)
noncomputable def S150_5 (call : CallFn) (t0 t1 t2 t7 t59 t61 t67 t69 : AV) (H : AHeap) : R :=
  guardA t59 false (pSub t67 t69 H fun t70 H =>
  S150_4 call t0 t1 t2 t7 t59 t61 t70 H) (S150_4 call t0 t1 t2 t7 t59 t61 U H)
noncomputable def S150_6 (call : CallFn) (t0 t1 t2 t7 t59 t61 t67 t68 : AV) (H : AHeap) : R :=
  guardA t59 false (ldK .none H t68 fun t69 H =>
  S150_5 call t0 t1 t2 t7 t59 t61 t67 t69 H) (S150_5 call t0 t1 t2 t7 t59 t61 t67 U H)
noncomputable def S150_7 (call : CallFn) (t0 t1 t2 t7 t59 t61 t67 : AV) (H : AHeap) : R :=
  guardA t59 false (pFa 1 t7 H fun t68 H =>
  S150_6 call t0 t1 t2 t7 t59 t61 t67 t68 H) (S150_6 call t0 t1 t2 t7 t59 t61 t67 U H)
noncomputable def S150_8 (call : CallFn) (t0 t1 t2 t7 t59 t61 t66 : AV) (H : AHeap) : R :=
  guardA t59 false (pO (aLen .sl H t66) H fun t67 H =>
  S150_7 call t0 t1 t2 t7 t59 t61 t67 H) (S150_7 call t0 t1 t2 t7 t59 t61 U H)
noncomputable def S150_9 (call : CallFn) (t0 t1 t2 t7 t59 t61 t65 : AV) (H : AHeap) : R :=
  guardA t59 false (ldK .none H t65 fun t66 H =>
  S150_8 call t0 t1 t2 t7 t59 t61 t66 H) (S150_8 call t0 t1 t2 t7 t59 t61 U H)
noncomputable def S150_10 (call : CallFn) (t0 t1 t2 t7 t59 t61 t64 : AV) (H : AHeap) : R :=
  guardA t59 false (pFa 3 t64 H fun t65 H =>
  S150_9 call t0 t1 t2 t7 t59 t61 t65 H) (S150_9 call t0 t1 t2 t7 t59 t61 U H)
noncomputable def S150_11 (call : CallFn) (t0 t1 t2 t7 t59 t61 t63 : AV) (H : AHeap) : R :=
  guardA t59 false (pFa 0 t63 H fun t64 H =>
  S150_10 call t0 t1 t2 t7 t59 t61 t64 H) (S150_10 call t0 t1 t2 t7 t59 t61 U H)
noncomputable def S150_12 (call : CallFn) (t0 t1 t2 t7 t59 t61 t62 : AV) (H : AHeap) : R :=
  guardA t59 false (pO (aNil t62) H fun t63 H =>
  S150_11 call t0 t1 t2 t7 t59 t61 t63 H) (S150_11 call t0 t1 t2 t7 t59 t61 U H)
noncomputable def S150_13 (call : CallFn) (t0 t1 t2 t7 t59 t61 : AV) (H : AHeap) : R :=
  guardA t59 false (S150_12 call t0 t1 t2 t7 t59 t61 t0 H) (S150_12 call t0 t1 t2 t7 t59 t61 U H)
noncomputable def S150_14 (call : CallFn) (t0 t1 t2 t7 t59 t60 : AV) (H : AHeap) : R :=
  guardA t59 false (ldK .none H t60 fun t61 H =>
  S150_13 call t0 t1 t2 t7 t59 t61 H) (S150_13 call t0 t1 t2 t7 t59 U H)
noncomputable def S150_15 (call : CallFn) (t0 t1 t2 t7 t48 t57 : AV) (H : AHeap) : R :=
  pPick t48 (.bool true) t57 H fun t58 H =>
  guardA t58 false (pFa 2 t7 H fun t60 H =>
  S150_14 call t0 t1 t2 t7 t58 t60 H) (S150_14 call t0 t1 t2 t7 t58 U H)
noncomputable def S150_16 (call : CallFn) (t0 t1 t2 t7 t48 t50 t56 : AV) (H : AHeap) : R :=
  guardA t48 false (pGtr t50 t56 H fun t57 H =>
  S150_15 call t0 t1 t2 t7 t48 t57 H) (S150_15 call t0 t1 t2 t7 t48 U H)
noncomputable def S150_17 (call : CallFn) (t0 t1 t2 t7 t48 t50 t55 : AV) (H : AHeap) : R :=
  guardA t48 false (pO (aLen .sl H t55) H fun t56 H =>
  S150_16 call t0 t1 t2 t7 t48 t50 t56 H) (S150_16 call t0 t1 t2 t7 t48 t50 U H)
noncomputable def S150_18 (call : CallFn) (t0 t1 t2 t7 t48 t50 t54 : AV) (H : AHeap) : R :=
  guardA t48 false (ldK .none H t54 fun t55 H =>
  S150_17 call t0 t1 t2 t7 t48 t50 t55 H) (S150_17 call t0 t1 t2 t7 t48 t50 U H)
noncomputable def S150_19 (call : CallFn) (t0 t1 t2 t7 t48 t50 t53 : AV) (H : AHeap) : R :=
  guardA t48 false (pFa 3 t53 H fun t54 H =>
  S150_18 call t0 t1 t2 t7 t48 t50 t54 H) (S150_18 call t0 t1 t2 t7 t48 t50 U H)
noncomputable def S150_20 (call : CallFn) (t0 t1 t2 t7 t48 t50 t52 : AV) (H : AHeap) : R :=
  guardA t48 false (pFa 0 t52 H fun t53 H =>
  S150_19 call t0 t1 t2 t7 t48 t50 t53 H) (S150_19 call t0 t1 t2 t7 t48 t50 U H)
noncomputable def S150_21 (call : CallFn) (t0 t1 t2 t7 t48 t50 t51 : AV) (H : AHeap) : R :=
  guardA t48 false (pO (aNil t51) H fun t52 H =>
  S150_20 call t0 t1 t2 t7 t48 t50 t52 H) (S150_20 call t0 t1 t2 t7 t48 t50 U H)
noncomputable def S150_22 (call : CallFn) (t0 t1 t2 t7 t48 t50 : AV) (H : AHeap) : R :=
  guardA t48 false (S150_21 call t0 t1 t2 t7 t48 t50 t0 H) (S150_21 call t0 t1 t2 t7 t48 t50 U H)
noncomputable def S150_23 (call : CallFn) (t0 t1 t2 t7 t48 t49 : AV) (H : AHeap) : R :=
  guardA t48 false (ldK .none H t49 fun t50 H =>
  S150_22 call t0 t1 t2 t7 t48 t50 H) (S150_22 call t0 t1 t2 t7 t48 U H)
noncomputable def S150_24 (call : CallFn) (t0 t1 t2 t7 t43 t46 : AV) (H : AHeap) : R :=
  pPick t43 (.bool true) t46 H fun t47 H =>
  guardA t47 false (pFa 1 t7 H fun t49 H =>
  S150_23 call t0 t1 t2 t7 t47 t49 H) (S150_23 call t0 t1 t2 t7 t47 U H)
noncomputable def S150_25 (call : CallFn) (t0 t1 t2 t7 t43 t45 : AV) (H : AHeap) : R :=
  guardA t43 false (pLss t45 (.int .i64 (.ofNat 0)) H fun t46 H =>
  S150_24 call t0 t1 t2 t7 t43 t46 H) (S150_24 call t0 t1 t2 t7 t43 U H)
noncomputable def S150_26 (call : CallFn) (t0 t1 t2 t7 t43 t44 : AV) (H : AHeap) : R :=
  guardA t43 false (ldK .none H t44 fun t45 H =>
  S150_25 call t0 t1 t2 t7 t43 t45 H) (S150_25 call t0 t1 t2 t7 t43 U H)
noncomputable def S150_27 (call : CallFn) (t0 t1 t2 t3 : AV) (H : AHeap) : R :=
  pBox t3 H fun t7 H =>
  pFa 0 t7 H fun t14 H =>
  ldK .none H t14 fun t15 H =>
  pEql t15 (.int .i64 (.ofNat 38)) H fun t17 H =>
  onBool t17 (pFa 1 t7 H fun t21 H =>
  ldK .none H t21 fun t22 H =>
  pFa 2 t7 H fun t23 H =>
  ldK .none H t23 fun t24 H =>
  pC call 211 [t0, t1, t2, (.int .i64 (.negSucc 0)), (.bool true), t22, t24] H fun t25 H =>
  pN (aBsl 4 1 [(.int .i64 (.ofNat 0)), (.bool false), (.int .i64 (.ofNat 0)), (.bool false)] [(0, 4, t25)]) H fun t26 H =>
  some (.tup [t26, (.int .i64 (.negSucc 0))], H)) (pEql t15 (.int .i64 (.ofNat 39)) H fun t28 H =>
  onBool t28 (pFa 2 t7 H fun t32 H =>
  ldK .none H t32 fun t33 H =>
  pFa 1 t7 H fun t34 H =>
  ldK .none H t34 fun t35 H =>
  pC call 211 [t0, t1, t2, (.int .i64 (.negSucc 0)), (.bool false), t33, t35] H fun t36 H =>
  pN (aBsl 4 1 [(.int .i64 (.ofNat 0)), (.bool false), (.int .i64 (.ofNat 0)), (.bool false)] [(0, 4, t36)]) H fun t37 H =>
  some (.tup [t37, (.int .i64 (.negSucc 0))], H)) (pEql t15 (.int .i64 (.ofNat 41)) H fun t39 H =>
  onBool t39 (pFa 1 t7 H fun t40 H =>
  ldK .none H t40 fun t41 H =>
  pLss t41 (.int .i64 (.ofNat 0)) H fun t42 H =>
  guardA t42 false (pFa 2 t7 H fun t44 H =>
  S150_26 call t0 t1 t2 t7 t42 t44 H) (S150_26 call t0 t1 t2 t7 t42 U H)) (some (.tup [.nilsl, (.int .i64 (.negSucc 0))], H))))
noncomputable def S150 : Ff := ⟨fun call l H => argA4 (fun t0 t1 t2 t3 => S150_27 call t0 t1 t2 t3 H) l⟩
/- (*gantline/sched.Table).ways -/
noncomputable def S151_0 (call : CallFn) (t0 t1 t2 t7 t9 t53 t58 : AV) (H : AHeap) : R :=
  pPick t53 t58 (.bool false) H fun t59 H =>
  onBool t59 (some (t9, H)) (pFa 2 t7 H fun t63 H =>
  ldK .none H t63 fun t64 H =>
  pC call 214 [t1, t64] H fun t65 H =>
  pEql t65 (.int .i64 (.ofNat 0)) H fun t66 H =>
  onBool t66 (ldK (.some 4) H t7 fun t70 H =>
  pC call 215 [t0, t1, t2, t70] H fun t71 H =>
  some (t71, H)) (some (.nilsl, H)))
noncomputable def S151_1 (call : CallFn) (t0 t1 t2 t7 t9 t37 t46 : AV) (H : AHeap) : R :=
  pPick t37 t46 (.bool false) H fun t47 H =>
  onBool t47 (some (t9, H)) (pFa 1 t7 H fun t50 H =>
  ldK .none H t50 fun t51 H =>
  pO (aUn .not t51) H fun t52 H =>
  guardA t52 true (pFa 2 t7 H fun t55 H =>
  ldK .none H t55 fun t56 H =>
  pC call 213 [t1, t56] H fun t57 H =>
  pGtr t57 (.int .i64 (.ofNat 0)) H fun t58 H =>
  S151_0 call t0 t1 t2 t7 t9 t52 t58 H) (S151_0 call t0 t1 t2 t7 t9 t52 U H))
noncomputable def S151_2 (call : CallFn) (t0 t1 t2 t7 t9 t37 t41 t45 : AV) (H : AHeap) : R :=
  guardA t37 true (pLss t41 t45 H fun t46 H =>
  S151_1 call t0 t1 t2 t7 t9 t37 t46 H) (S151_1 call t0 t1 t2 t7 t9 t37 U H)
noncomputable def S151_3 (call : CallFn) (t0 t1 t2 t7 t9 t37 t41 t42 t43 t44 : AV) (H : AHeap) : R :=
  andR (andB (gdB t37 true (ckV (aLoad .none H t43) t44)) true) (
  guardA t37 true (pC call 214 [t42, t44] H fun t45 H =>
  S151_2 call t0 t1 t2 t7 t9 t37 t41 t45 H) (S151_2 call t0 t1 t2 t7 t9 t37 t41 U H))
noncomputable def S151_4 (call : CallFn) (t0 t1 t2 t7 t9 t37 t38 t40 t42 t43 t44 : AV) (H : AHeap) : R :=
  guardA t37 true (pC call 213 [t38, t40] H fun t41 H =>
  S151_3 call t0 t1 t2 t7 t9 t37 t41 t42 t43 t44 H) (S151_3 call t0 t1 t2 t7 t9 t37 U t42 t43 t44 H)
noncomputable def S151_5 (call : CallFn) (t0 t1 t2 t7 t9 t37 t38 t40 t42 t43 : AV) (H : AHeap) : R :=
  guardA t37 true (ldK .none H t43 fun t44 H =>
  S151_4 call t0 t1 t2 t7 t9 t37 t38 t40 t42 t43 t44 H) (S151_4 call t0 t1 t2 t7 t9 t37 t38 t40 t42 t43 U H)
noncomputable def S151_6 (call : CallFn) (t0 t1 t2 t7 t9 t37 t38 t40 t42 : AV) (H : AHeap) : R :=
  guardA t37 true (pFa 2 t7 H fun t43 H =>
  S151_5 call t0 t1 t2 t7 t9 t37 t38 t40 t42 t43 H) (S151_5 call t0 t1 t2 t7 t9 t37 t38 t40 t42 U H)
noncomputable def S151_7 (call : CallFn) (t0 t1 t2 t7 t9 t37 t38 t40 : AV) (H : AHeap) : R :=
  guardA t37 true (S151_6 call t0 t1 t2 t7 t9 t37 t38 t40 t1 H) (S151_6 call t0 t1 t2 t7 t9 t37 t38 t40 U H)
noncomputable def S151_8 (call : CallFn) (t0 t1 t2 t7 t9 t37 t38 t39 : AV) (H : AHeap) : R :=
  guardA t37 true (ldK .none H t39 fun t40 H =>
  S151_7 call t0 t1 t2 t7 t9 t37 t38 t40 H) (S151_7 call t0 t1 t2 t7 t9 t37 t38 U H)
noncomputable def S151_9 (call : CallFn) (t0 t1 t2 t7 t9 t37 t38 : AV) (H : AHeap) : R :=
  guardA t37 true (pFa 2 t7 H fun t39 H =>
  S151_8 call t0 t1 t2 t7 t9 t37 t38 t39 H) (S151_8 call t0 t1 t2 t7 t9 t37 t38 U H)
noncomputable def S151_10 (call : CallFn) (t0 t1 t2 t7 t9 t27 t31 : AV) (H : AHeap) : R :=
  pPick t27 (.bool true) t31 H fun t32 H =>
  onBool t32 (some (t9, H)) (pFa 1 t7 H fun t35 H =>
  ldK .none H t35 fun t36 H =>
  guardA t36 true (S151_9 call t0 t1 t2 t7 t9 t36 t1 H) (S151_9 call t0 t1 t2 t7 t9 t36 U H))
noncomputable def S151_11 (call : CallFn) (t0 t1 t2 t7 t9 t18 t21 : AV) (H : AHeap) : R :=
  pPick t18 t21 (.bool false) H fun t22 H =>
  onBool t22 (some (.nilsl, H)) (pFa 3 t7 H fun t24 H =>
  ldK .none H t24 fun t25 H =>
  pO (aUn .not t25) H fun t26 H =>
  guardA t26 false (pFa 2 t7 H fun t29 H =>
  ldK .none H t29 fun t30 H =>
  pC call 212 [t1, t30] H fun t31 H =>
  S151_10 call t0 t1 t2 t7 t9 t26 t31 H) (S151_10 call t0 t1 t2 t7 t9 t26 U H))
noncomputable def S151_12 (call : CallFn) (t0 t1 t2 t3 : AV) (H : AHeap) : R :=
  pBox t3 H fun t7 H =>
  pFa 0 t7 H fun t10 H =>
  ldK .none H t10 fun t11 H =>
  pO (someAgg (aFill [(.int .i64 (.ofNat 0)), (.int .i64 (.ofNat 0)), (.int .i64 (.ofNat 0))] [(0, 1, t11), (1, 1, (.int .i64 (.ofNat 0))), (2, 1, (.int .i64 (.negSucc 0)))])) H fun t12 H =>
  pN (aBsl 3 1 [(.int .i64 (.ofNat 0)), (.int .i64 (.ofNat 0)), (.int .i64 (.ofNat 0))] [(0, 3, t12)]) H fun t13 H =>
  pFa 3 t7 H fun t15 H =>
  ldK .none H t15 fun t16 H =>
  pO (aUn .not t16) H fun t17 H =>
  guardA t17 true (pFa 0 t7 H fun t19 H =>
  ldK .none H t19 fun t20 H =>
  pNeq t20 (.int .i64 (.negSucc 0)) H fun t21 H =>
  S151_11 call t0 t1 t2 t7 t13 t17 t21 H) (S151_11 call t0 t1 t2 t7 t13 t17 U H)
noncomputable def S151 : Ff := ⟨fun call l H => argA4 (fun t0 t1 t2 t3 => S151_12 call t0 t1 t2 t3 H) l⟩
/- (*gantline/vm.doing).give -/
noncomputable def S152_0 (call : CallFn) (t0 t1 : AV) (H : AHeap) : R :=
  pO (aNil t0) H fun t5 H =>
  pFa 2 t5 H fun t6 H =>
  ldK .none H t6 fun t7 H =>
  pO (aNil t0) H fun t9 H =>
  pFa 3 t9 H fun t10 H =>
  pFa 1 t10 H fun t11 H =>
  ldK .none H t11 fun t12 H =>
  pC call 216 [t7, t12, t1] H fun _ H =>
  pC call 105 [t0] H fun _ H =>
  some (.tup [], H)
noncomputable def S152 : Ff := ⟨fun call l H => argA2 (fun t0 t1 => S152_0 call t0 t1 H) l⟩
/- gantline/vm.one -/
noncomputable def S153_0 (_ : CallFn) (t0 : AV) (H : AHeap) : R :=
  onBool t0 (some ((.int .i64 (.ofNat 1)), H)) (some ((.int .i64 (.ofNat 0)), H))
noncomputable def S153 : Ff := ⟨fun call l H => argA1 (fun t0 => S153_0 call t0 H) l⟩
/- (*gantline/frame.Stack).Jump -/
noncomputable def S154_0 (call : CallFn) (t0 t1 : AV) (H : AHeap) : R :=
  pC call 98 [t0] H fun t6 H =>
  pO (aEq true .ptr t6 .nilp) H fun t8 H =>
  onBool t8 (pO (aNil t6) H fun t11 H =>
  pFa 1 t11 H fun t12 H =>
  stK 1 H t12 t1 fun _ H =>
  some (.tup [], H)) (some (.tup [], H))
noncomputable def S154 : Ff := ⟨fun call l H => argA2 (fun t0 t1 => S154_0 call t0 t1 H) l⟩
/- (*gantline/vm.doing).back -/
noncomputable def S160_0 (call : CallFn) (t0 t3 : AV) (H : AHeap) : R :=
  pO (aNil t0) H fun t102 H =>
  pFa 2 t102 H fun t103 H =>
  ldK .none H t103 fun t104 H =>
  pFa 1 t3 H fun t105 H =>
  ldK .none H t105 fun t106 H =>
  pAdd t106 (.int .i64 (.ofNat 1)) H fun t107 H =>
  pC call 154 [t104, t107] H fun _ H =>
  some (.tup [], H)
noncomputable def S160_1 (call : CallFn) (t0 t2 t3 t5 t88 t91 : AV) (H : AHeap) : R :=
  pPick t88 t91 (.bool false) H fun t92 H =>
  onBool t92 (pO (aNil t0) H fun t94 H =>
  pFa 2 t94 H fun t95 H =>
  ldK .none H t95 fun t96 H =>
  pFa 1 t5 H fun t97 H =>
  ldK .none H t97 fun t98 H =>
  pC call 216 [t96, t98, t2] H fun _ H =>
  S160_0 call t0 t3 H) (S160_0 call t0 t3 H)
noncomputable def S160_2 (call : CallFn) (t0 : AV) (H : AHeap) : R :=
  pO (aNil t0) H fun t8 H =>
  pFa 2 t8 H fun t9 H =>
  ldK .none H t9 fun t10 H =>
  pO (aNil t0) H fun t12 H =>
  pFa 3 t12 H fun t13 H =>
  pFa 1 t13 H fun t14 H =>
  ldK .none H t14 fun t15 H =>
  pC call 104 [t10, t15] H fun t16 H =>
  pO (aNil t0) H fun t18 H =>
  pFa 2 t18 H fun t19 H =>
  ldK .none H t19 fun t20 H =>
  pC call 227 [t20] H fun t21 H =>
  pO (aUn .not t21) H fun t22 H =>
  onBool t22 (pO (aNil t0) H fun t24 H =>
  pFa 0 t24 H fun t25 H =>
  ldK .none H t25 fun t26 H =>
  pO (aNil t26) H fun t27 H =>
  pFa 7 t27 H fun t28 H =>
  ldK .none H t28 fun t29 H =>
  pO (aNil t0) H fun t31 H =>
  pFa 1 t31 H fun t32 H =>
  ldK .none H t32 fun t33 H =>
  pC call 228 [t29, t33] H fun _ H =>
  pO (aNil t0) H fun t36 H =>
  pFa 0 t36 H fun t37 H =>
  ldK .none H t37 fun t38 H =>
  pO (aNil t38) H fun t39 H =>
  pFa 6 t39 H fun t40 H =>
  ldK .none H t40 fun t41 H =>
  pO (aNil t0) H fun t44 H =>
  pFa 1 t44 H fun t45 H =>
  ldK .none H t45 fun t46 H =>
  pC call 22 [t41] H fun t42 H =>
  andR (andB (ckV (aLoad .none H t45) t46) true) (
  pC call 229 [t42, t46] H fun _ H =>
  pO (aNil t0) H fun t49 H =>
  pFa 1 t49 H fun t50 H =>
  ldK .none H t50 fun t51 H =>
  pEql t51 (.int .i64 (.ofNat 1)) H fun t52 H =>
  onBool t52 (pO (aNil t0) H fun t54 H =>
  pFa 0 t54 H fun t55 H =>
  ldK .none H t55 fun t56 H =>
  pO (aNil t56) H fun t57 H =>
  pFa 11 t57 H fun t58 H =>
  stK 1 H t58 (.int .i64 (.ofNat 1)) fun _ H =>
  some (.tup [], H)) (some (.tup [], H)))) (pO (aNil t0) H fun t61 H =>
  pFa 2 t61 H fun t62 H =>
  ldK .none H t62 fun t63 H =>
  pC call 47 [t63] H fun t64 H =>
  pExt t64 0 H fun t65 H =>
  pExt t64 1 H fun _ H =>
  pNew [(.int .i64 (.ofNat 0)), (.int .i64 (.ofNat 0)), .nilsl] H fun t3 H =>
  stK 3 H t3 t65 fun _ H =>
  pO (aNil t0) H fun t69 H =>
  pFa 2 t69 H fun t70 H =>
  ldK .none H t70 fun t71 H =>
  pO (aNil t0) H fun t73 H =>
  pFa 0 t73 H fun t74 H =>
  ldK .none H t74 fun t75 H =>
  pO (aNil t75) H fun t76 H =>
  pFa 0 t76 H fun t77 H =>
  ldK (.some 6) H t77 fun t78 H =>
  pNew [(.int .i64 (.ofNat 0)), (.int .i64 (.ofNat 0)), (.int .i64 (.ofNat 0)), (.int .i64 (.ofNat 0)), (.int .i64 (.ofNat 0))] H fun t5 H =>
  pC call 46 [t71, t78] H fun t79 H =>
  pExt t79 0 H fun t80 H =>
  pExt t79 1 H fun _ H =>
  stK 5 H t5 t80 fun _ H =>
  pO (aNil t0) H fun t83 H =>
  pFa 3 t83 H fun t84 H =>
  pFa 1 t84 H fun t85 H =>
  ldK .none H t85 fun t86 H =>
  pNeq t86 (.int .i64 (.negSucc 0)) H fun t87 H =>
  guardA t87 true (pFa 1 t5 H fun t89 H =>
  ldK .none H t89 fun t90 H =>
  pNeq t90 (.int .i64 (.negSucc 0)) H fun t91 H =>
  S160_1 call t0 t16 t3 t5 t87 t91 H) (S160_1 call t0 t16 t3 t5 t87 U H))
noncomputable def S160 : Ff := ⟨fun call l H => argA1 (fun t0 => S160_2 call t0 H) l⟩
/- (*gantline/heap.Heap).Make -/
noncomputable def S163_0 (call : CallFn) (t0 t2 t10 t11 t12 : AV) (H : AHeap) : R :=
  pNeq t12 (.int .i64 (.ofNat 0)) H fun t76 H =>
  onBool t76 (some (.tup [(.int .i64 (.ofNat 0)), t12], H)) (pO (aNil t0) H fun t80 H =>
  pFa 0 t80 H fun t81 H =>
  ldK .none H t81 fun t82 H =>
  ldK (.some 3) H t10 fun t84 H =>
  pC call 88 [t82] H fun t83 H =>
  andR (andB (ckV (aLoad (.some 3) H t10) t84) true) (
  pC call 89 [t83, t84] H fun t85 H =>
  pExt t85 0 H fun t86 H =>
  pExt t85 1 H fun _ H =>
  pFa 0 t10 H fun t90 H =>
  ldK .none H t90 fun t91 H =>
  pO (someAgg (aFill [(.int .i64 (.ofNat 0)), (.int .i64 (.ofNat 0)), (.int .i64 (.ofNat 0))] [(0, 1, t2), (1, 1, t91), (2, 1, t86)])) H fun t93 H =>
  pC call 234 [t93] H fun t94 H =>
  pExt t94 0 H fun t95 H =>
  pExt t94 1 H fun t96 H =>
  pNeq t96 (.int .i64 (.ofNat 0)) H fun t98 H =>
  onBool t98 (some (.tup [(.int .i64 (.ofNat 0)), t96], H)) (pO (aNil t0) H fun t101 H =>
  pFa 0 t101 H fun t102 H =>
  ldK .none H t102 fun t103 H =>
  pC call 23 [t103] H fun t104 H =>
  pC call 235 [t104, t11, (.int .i64 (.ofNat 0)), t95] H fun _ H =>
  some (.tup [t11, (.int .i64 (.ofNat 0))], H))))
noncomputable def S163_1 (call : CallFn) (t0 t1 t2 t3 t31 t33 : AV) (H : AHeap) : R :=
  pPick t31 (.bool true) t33 H fun t34 H =>
  onBool t34 (some (.tup [(.int .i64 (.ofNat 0)), (.int .i64 (.ofNat 1))], H)) (pO (aNil t0) H fun t36 H =>
  pFa 1 t36 H fun t37 H =>
  ldK .none H t37 fun t38 H =>
  pIa 3 t38 t1 H fun t40 H =>
  ldK (.some 3) H t40 fun t41 H =>
  pNew [(.int .i64 (.ofNat 0)), (.int .i64 (.ofNat 0)), (.int .u64 (.ofNat 0))] H fun t10 H =>
  stK 3 H t10 t41 fun _ H =>
  pO (aNil t0) H fun t44 H =>
  pFa 0 t44 H fun t45 H =>
  ldK .none H t45 fun t46 H =>
  pC call 232 [t46, t2] H fun t48 H =>
  pExt t48 0 H fun t49 H =>
  pExt t48 1 H fun t50 H =>
  pEql t50 (.int .i64 (.ofNat 5)) H fun t52 H =>
  onBool t52 (pO (aNil t0) H fun t54 H =>
  pFa 0 t54 H fun t55 H =>
  ldK .none H t55 fun t56 H =>
  pC call 233 [t56, t3] H fun _ H =>
  pO (aNil t0) H fun t60 H =>
  pFa 2 t60 H fun t61 H =>
  ldK .none H t61 fun t62 H =>
  pAdd t62 (.int .i64 (.ofNat 1)) H fun t63 H =>
  pO (aNil t0) H fun t64 H =>
  pFa 2 t64 H fun t65 H =>
  stK 1 H t65 t63 fun _ H =>
  pO (aNil t0) H fun t68 H =>
  pFa 0 t68 H fun t69 H =>
  ldK .none H t69 fun t70 H =>
  pC call 232 [t70, t2] H fun t72 H =>
  pExt t72 0 H fun t73 H =>
  pExt t72 1 H fun t74 H =>
  S163_0 call t0 t2 t10 t73 t74 H) (S163_0 call t0 t2 t10 t49 t50 H))
noncomputable def S163_2 (call : CallFn) (t0 t1 t2 t3 t27 t29 : AV) (H : AHeap) : R :=
  pPick t27 (.bool true) t29 H fun t30 H =>
  guardA t30 false (pGtr t2 (.int .i64 (.ofNat 64)) H fun t33 H =>
  S163_1 call t0 t1 t2 t3 t30 t33 H) (S163_1 call t0 t1 t2 t3 t30 U H)
noncomputable def S163_3 (call : CallFn) (t0 t1 t2 t3 t18 t25 : AV) (H : AHeap) : R :=
  pPick t18 (.bool true) t25 H fun t26 H =>
  guardA t26 false (pLss t2 (.int .i64 (.ofNat 1)) H fun t29 H =>
  S163_2 call t0 t1 t2 t3 t26 t29 H) (S163_2 call t0 t1 t2 t3 t26 U H)
noncomputable def S163_4 (call : CallFn) (t0 t1 t2 t3 : AV) (H : AHeap) : R :=
  pLss t1 (.int .i64 (.ofNat 0)) H fun t17 H =>
  guardA t17 false (pO (aNil t0) H fun t21 H =>
  pFa 1 t21 H fun t22 H =>
  ldK .none H t22 fun t23 H =>
  pO (aLen .sl H t23) H fun t24 H =>
  pGeq t1 t24 H fun t25 H =>
  S163_3 call t0 t1 t2 t3 t17 t25 H) (S163_3 call t0 t1 t2 t3 t17 U H)
noncomputable def S163 : Ff := ⟨fun call l H => argA4 (fun t0 t1 t2 t3 => S163_4 call t0 t1 t2 t3 H) l⟩
/- gantline/chans.Make -/
noncomputable def S165_0 (call : CallFn) (t0 t1 t2 t3 t15 t17 : AV) (H : AHeap) : R :=
  pPick t15 (.bool true) t17 H fun t18 H =>
  onBool t18 (some (.tup [(.int .i64 (.ofNat 0)), (.int .i64 (.ofNat 5)), (.int .i64 (.ofNat 0))], H)) (pAdd t2 (.int .i64 (.ofNat 5)) H fun t23 H =>
  pC call 163 [t0, t1, t23, t3] H fun t25 H =>
  pExt t25 0 H fun t26 H =>
  pExt t25 1 H fun t27 H =>
  pNeq t27 (.int .i64 (.ofNat 0)) H fun t29 H =>
  onBool t29 (some (.tup [(.int .i64 (.ofNat 0)), (.int .i64 (.ofNat 0)), t27], H)) (pC call 238 [t0, t26, (.int .i64 (.ofNat 0)), t2] H fun _ H =>
  some (.tup [t26, (.int .i64 (.ofNat 0)), (.int .i64 (.ofNat 0))], H)))
noncomputable def S165_1 (call : CallFn) (t0 t1 t2 t3 : AV) (H : AHeap) : R :=
  pLss t2 (.int .i64 (.ofNat 0)) H fun t14 H =>
  guardA t14 false (pGtr t2 (.int .i64 (.ofNat 59)) H fun t17 H =>
  S165_0 call t0 t1 t2 t3 t14 t17 H) (S165_0 call t0 t1 t2 t3 t14 U H)
noncomputable def S165 : Ff := ⟨fun call l H => argA4 (fun t0 t1 t2 t3 => S165_1 call t0 t1 t2 t3 H) l⟩
/- (*gantline/vm.doing).kind -/
noncomputable def S167_0 (_ : CallFn) (t0 t1 : AV) (H : AHeap) : R :=
  pO (aNil t0) H fun t6 H =>
  pFa 8 t6 H fun t7 H =>
  pFa 4 t7 H fun t8 H =>
  ldK .none H t8 fun t9 H =>
  pIa 1 t9 t1 H fun t11 H =>
  ldK .none H t11 fun t12 H =>
  some (t12, H)
noncomputable def S167 : Ff := ⟨fun call l H => argA2 (fun t0 t1 => S167_0 call t0 t1 H) l⟩
/- (*gantline/vm.doing).close -/
noncomputable def S173_0 (call : CallFn) (t0 t2 t26 t36 : AV) (H : AHeap) : R :=
  pPick t26 t36 (.bool false) H fun t37 H =>
  onBool t37 (pO (aNil t0) H fun t39 H =>
  pFa 0 t39 H fun t40 H =>
  ldK .none H t40 fun t41 H =>
  pC call 106 [t41, (.int .i64 (.ofNat 1))] H fun _ H =>
  some (.tup [], H)) (pO (aNil t0) H fun t45 H =>
  pFa 0 t45 H fun t46 H =>
  ldK .none H t46 fun t47 H =>
  pO (aNil t47) H fun t48 H =>
  pFa 6 t48 H fun t49 H =>
  ldK .none H t49 fun t50 H =>
  pC call 243 [t50, t2] H fun t52 H =>
  pO (aUn .not t52) H fun t53 H =>
  onBool t53 (pO (aNil t0) H fun t55 H =>
  pFa 0 t55 H fun t56 H =>
  ldK .none H t56 fun t57 H =>
  pC call 106 [t57, (.int .i64 (.ofNat 4))] H fun _ H =>
  some (.tup [], H)) (pC call 105 [t0] H fun _ H =>
  some (.tup [], H)))
noncomputable def S173_1 (call : CallFn) (t0 : AV) (H : AHeap) : R :=
  pO (aNil t0) H fun t4 H =>
  pFa 2 t4 H fun t5 H =>
  ldK .none H t5 fun t6 H =>
  pO (aNil t0) H fun t8 H =>
  pFa 3 t8 H fun t9 H =>
  pFa 1 t9 H fun t10 H =>
  ldK .none H t10 fun t11 H =>
  pC call 104 [t6, t11] H fun t12 H =>
  pO (aNil t0) H fun t17 H =>
  pFa 0 t17 H fun t18 H =>
  ldK .none H t18 fun t19 H =>
  pO (aNil t19) H fun t20 H =>
  pFa 6 t20 H fun t21 H =>
  ldK .none H t21 fun t22 H =>
  pC call 242 [t22, t12, (.bool true)] H fun t24 H =>
  pO (aUn .not t24) H fun t25 H =>
  guardA t25 true (pO (aNil t0) H fun t28 H =>
  pFa 0 t28 H fun t29 H =>
  ldK .none H t29 fun t30 H =>
  pO (aNil t30) H fun t31 H =>
  pFa 6 t31 H fun t32 H =>
  ldK .none H t32 fun t33 H =>
  pC call 242 [t33, t12, (.bool false)] H fun t35 H =>
  pO (aUn .not t35) H fun t36 H =>
  S173_0 call t0 t12 t25 t36 H) (S173_0 call t0 t12 t25 U H)
noncomputable def S173 : Ff := ⟨fun call l H => argA1 (fun t0 => S173_1 call t0 H) l⟩
/- (*gantline/vm.Machine).side -/
noncomputable def S174_0 (_ : CallFn) (t6 t11 : AV) (H : AHeap) : R :=
  ldK (.some 6) H t11 fun t80 H =>
  stK 6 H t6 t80 fun _ H =>
  ob (allM (fun o => o) [aLoad (.some 6) H t6]) fun vs => some (resV vs, H)
noncomputable def S174_1 (call : CallFn) (t0 t1 t2 : AV) (H : AHeap) : R :=
  pNew [.nilp, (.bool false), (.int .i64 (.ofNat 0)), (.int .i64 (.ofNat 0)), (.int .i64 (.ofNat 0)), (.int .i64 (.ofNat 0))] H fun t6 H =>
  pC call 47 [t1] H fun t15 H =>
  pExt t15 0 H fun t16 H =>
  pExt t15 1 H fun _ H =>
  pNew [(.int .i64 (.ofNat 0)), (.int .i64 (.ofNat 0)), .nilsl] H fun t7 H =>
  stK 3 H t7 t16 fun _ H =>
  pO (aNil t0) H fun t21 H =>
  pFa 0 t21 H fun t22 H =>
  ldK (.some 6) H t22 fun t23 H =>
  pC call 46 [t1, t23] H fun t24 H =>
  pExt t24 0 H fun t25 H =>
  pExt t24 1 H fun _ H =>
  pNew [(.int .i64 (.ofNat 0)), (.int .i64 (.ofNat 0)), (.int .i64 (.ofNat 0)), (.int .i64 (.ofNat 0)), (.int .i64 (.ofNat 0))] H fun t9 H =>
  stK 5 H t9 t25 fun _ H =>
  pFa 1 t7 H fun t28 H =>
  ldK .none H t28 fun t29 H =>
  pAdd t29 (.int .i64 (.ofNat 1)) H fun t30 H =>
  pO (someAgg (aFill [.nilp, (.bool false), (.int .i64 (.ofNat 0)), (.int .i64 (.ofNat 0)), (.int .i64 (.ofNat 0)), (.int .i64 (.ofNat 0))] [(0, 1, t1), (4, 1, (.int .i64 (.negSucc 0))), (5, 1, t30)])) H fun t31 H =>
  pNew [.nilp, (.bool false), (.int .i64 (.ofNat 0)), (.int .i64 (.ofNat 0)), (.int .i64 (.ofNat 0)), (.int .i64 (.ofNat 0))] H fun t11 H =>
  stK 6 H t11 t31 fun _ H =>
  pFa 0 t9 H fun t32 H =>
  ldK .none H t32 fun t33 H =>
  pEql t33 (.int .i64 (.ofNat 38)) H fun t35 H =>
  onBool t35 (pFa 1 t9 H fun t36 H =>
  ldK .none H t36 fun t37 H =>
  pFa 2 t9 H fun t38 H =>
  ldK .none H t38 fun t39 H =>
  pFa 1 t11 H fun t40 H =>
  stK 1 H t40 (.bool true) fun _ H =>
  andR (andB (ckV (aLoad .none H t36) t37) (andB (ckV (aLoad .none H t38) t39) true)) (
  pFa 2 t11 H fun t41 H =>
  stK 1 H t41 t37 fun _ H =>
  andR (andB (ckV (aLoad .none H t38) t39) true) (
  pFa 3 t11 H fun t42 H =>
  stK 1 H t42 t39 fun _ H =>
  S174_0 call t6 t11 H))) (pEql t33 (.int .i64 (.ofNat 39)) H fun t44 H =>
  onBool t44 (pFa 2 t9 H fun t45 H =>
  ldK .none H t45 fun t46 H =>
  pFa 1 t9 H fun t47 H =>
  ldK .none H t47 fun t48 H =>
  pFa 3 t9 H fun t49 H =>
  ldK .none H t49 fun t50 H =>
  pFa 2 t11 H fun t51 H =>
  stK 1 H t51 t46 fun _ H =>
  andR (andB (ckV (aLoad .none H t47) t48) (andB (ckV (aLoad .none H t49) t50) true)) (
  pFa 3 t11 H fun t52 H =>
  stK 1 H t52 t48 fun _ H =>
  andR (andB (ckV (aLoad .none H t49) t50) true) (
  pFa 4 t11 H fun t53 H =>
  stK 1 H t53 t50 fun _ H =>
  S174_0 call t6 t11 H))) (pEql t33 (.int .i64 (.ofNat 41)) H fun t55 H =>
  onBool t55 (pO (aNil t0) H fun t57 H =>
  pFa 0 t57 H fun t58 H =>
  pFa 3 t58 H fun t59 H =>
  ldK .none H t59 fun t60 H =>
  pFa 1 t9 H fun t61 H =>
  ldK .none H t61 fun t62 H =>
  pAdd t62 t2 H fun t64 H =>
  pIa 4 t60 t64 H fun t65 H =>
  ldK (.some 4) H t65 fun t66 H =>
  pNew [(.int .i64 (.ofNat 0)), (.int .i64 (.ofNat 0)), (.int .i64 (.ofNat 0)), (.int .i64 (.ofNat 0))] H fun t12 H =>
  stK 4 H t12 t66 fun _ H =>
  pFa 0 t12 H fun t67 H =>
  ldK .none H t67 fun t68 H =>
  pEql t68 (.int .i64 (.ofNat 1)) H fun t69 H =>
  pFa 1 t12 H fun t70 H =>
  ldK .none H t70 fun t71 H =>
  pFa 2 t12 H fun t72 H =>
  ldK .none H t72 fun t73 H =>
  pFa 3 t12 H fun t74 H =>
  ldK .none H t74 fun t75 H =>
  pFa 1 t11 H fun t76 H =>
  stK 1 H t76 t69 fun _ H =>
  andR (andB (ckV (aLoad .none H t70) t71) (andB (ckV (aLoad .none H t72) t73) (andB (ckV (aLoad .none H t74) t75) true))) (
  pFa 2 t11 H fun t77 H =>
  stK 1 H t77 t71 fun _ H =>
  andR (andB (ckV (aLoad .none H t72) t73) (andB (ckV (aLoad .none H t74) t75) true)) (
  pFa 3 t11 H fun t78 H =>
  stK 1 H t78 t73 fun _ H =>
  andR (andB (ckV (aLoad .none H t74) t75) true) (
  pFa 5 t11 H fun t79 H =>
  stK 1 H t79 t75 fun _ H =>
  S174_0 call t6 t11 H)))) (S174_0 call t6 t11 H)))
noncomputable def S174 : Ff := ⟨fun call l H => argA3 (fun t0 t1 t2 => S174_1 call t0 t1 t2 H) l⟩
/- (*gantline/vm.doing).fits -/
noncomputable def S175_0 (_ : CallFn) (t23 t32 : AV) (H : AHeap) : R :=
  pPick t23 (.bool true) t32 H fun t33 H =>
  some (t33, H)
noncomputable def S175_1 (call : CallFn) (t0 t1 : AV) (H : AHeap) : R :=
  pBox t1 H fun t3 H =>
  pFa 0 t3 H fun t6 H =>
  ldK .none H t6 fun t7 H =>
  pFa 2 t3 H fun t8 H =>
  ldK .none H t8 fun t9 H =>
  pC call 104 [t7, t9] H fun t10 H =>
  pFa 3 t3 H fun t11 H =>
  ldK .none H t11 fun t12 H =>
  pEql t12 (.int .i64 (.negSucc 0)) H fun t13 H =>
  onBool t13 (pO (aNil t0) H fun t15 H =>
  pFa 0 t15 H fun t16 H =>
  ldK .none H t16 fun t17 H =>
  pO (aNil t17) H fun t18 H =>
  pFa 6 t18 H fun t19 H =>
  ldK .none H t19 fun t20 H =>
  pC call 242 [t20, t10, (.bool true)] H fun t22 H =>
  guardA t22 false (pO (aNil t0) H fun t25 H =>
  pFa 0 t25 H fun t26 H =>
  ldK .none H t26 fun t27 H =>
  pO (aNil t27) H fun t28 H =>
  pFa 6 t28 H fun t29 H =>
  ldK .none H t29 fun t30 H =>
  pC call 242 [t30, t10, (.bool false)] H fun t32 H =>
  S175_0 call t22 t32 H) (S175_0 call t22 U H)) (pO (aNil t0) H fun t35 H =>
  pFa 0 t35 H fun t36 H =>
  ldK .none H t36 fun t37 H =>
  pO (aNil t37) H fun t38 H =>
  pFa 6 t38 H fun t39 H =>
  ldK .none H t39 fun t40 H =>
  pFa 3 t3 H fun t43 H =>
  ldK .none H t43 fun t44 H =>
  pC call 167 [t0, t44] H fun t45 H =>
  andR (andB (ckV (aLoad .none H t36) t37) (andB (ckV (aLoad .none H t39) t40) true)) (
  pC call 242 [t40, t10, t45] H fun t46 H =>
  some (t46, H)))
noncomputable def S175 : Ff := ⟨fun call l H => argA2 (fun t0 t1 => S175_1 call t0 t1 H) l⟩
/- (*gantline/vm.doing).send -/
noncomputable def S177_0 (call : CallFn) (t0 t1 : AV) (H : AHeap) : R :=
  pBox t1 H fun t3 H =>
  pO (aNil t0) H fun t6 H =>
  pFa 2 t6 H fun t7 H =>
  ldK .none H t7 fun t8 H =>
  pFa 2 t3 H fun t9 H =>
  ldK .none H t9 fun t10 H =>
  pC call 104 [t8, t10] H fun t11 H =>
  pO (aNil t0) H fun t13 H =>
  pFa 0 t13 H fun t14 H =>
  ldK .none H t14 fun t15 H =>
  pO (aNil t15) H fun t16 H =>
  pFa 6 t16 H fun t17 H =>
  ldK .none H t17 fun t18 H =>
  pC call 212 [t18, t11] H fun t20 H =>
  onBool t20 (pO (aNil t0) H fun t22 H =>
  pFa 0 t22 H fun t23 H =>
  ldK .none H t23 fun t24 H =>
  pC call 106 [t24, (.int .i64 (.ofNat 4))] H fun _ H =>
  some (.tup [], H)) (pO (aNil t0) H fun t27 H =>
  pFa 0 t27 H fun t28 H =>
  ldK .none H t28 fun t29 H =>
  pO (aNil t29) H fun t30 H =>
  pFa 6 t30 H fun t31 H =>
  ldK .none H t31 fun t32 H =>
  pO (aNil t0) H fun t35 H =>
  pFa 2 t35 H fun t36 H =>
  ldK .none H t36 fun t37 H =>
  pFa 3 t3 H fun t38 H =>
  ldK .none H t38 fun t39 H =>
  pO (aNil t0) H fun t42 H =>
  pFa 1 t42 H fun t43 H =>
  ldK .none H t43 fun t44 H =>
  pC call 104 [t37, t39] H fun t40 H =>
  andR (andB (ckV (aLoad .none H t28) t29) (andB (ckV (aLoad .none H t31) t32) (andB (ckV (aLoad .none H t43) t44) true))) (
  pC call 244 [t32, t11, t40, t44] H fun _ H =>
  pO (aNil t0) H fun t47 H =>
  pFa 2 t47 H fun t48 H =>
  ldK .none H t48 fun t49 H =>
  pFa 5 t3 H fun t50 H =>
  ldK .none H t50 fun t51 H =>
  pC call 154 [t49, t51] H fun _ H =>
  some (.tup [], H)))
noncomputable def S177 : Ff := ⟨fun call l H => argA2 (fun t0 t1 => S177_0 call t0 t1 H) l⟩
/- gantline/chans.Pop -/
noncomputable def S178_0 (call : CallFn) (t0 t1 t6 t7 t8 : AV) (H : AHeap) : R :=
  pC call 238 [t0, t1, t7, (.int .i64 (.ofNat 0))] H fun _ H =>
  pAdd t6 (.int .i64 (.ofNat 1)) H fun t52 H =>
  pC call 214 [t0, t1] H fun t55 H =>
  pO (aBin .rem t52 t55) H fun t56 H =>
  pC call 238 [t0, t1, (.int .i64 (.ofNat 2)), t56] H fun _ H =>
  pC call 213 [t0, t1] H fun t62 H =>
  pSub t62 (.int .i64 (.ofNat 1)) H fun t63 H =>
  pC call 238 [t0, t1, (.int .i64 (.ofNat 1)), t63] H fun _ H =>
  some (.tup [t8, (.bool true)], H)
noncomputable def S178_1 (call : CallFn) (t0 t1 t15 t19 : AV) (H : AHeap) : R :=
  pPick t15 (.bool true) t19 H fun t20 H =>
  onBool t20 (some (.tup [(.int .i64 (.ofNat 0)), (.bool false)], H)) (pC call 245 [t0, t1, (.int .i64 (.ofNat 2))] H fun t23 H =>
  pC call 214 [t0, t1] H fun t27 H =>
  pO (aBin .rem t23 t27) H fun t28 H =>
  pAdd (.int .i64 (.ofNat 4)) t28 H fun t29 H =>
  pC call 245 [t0, t1, t29] H fun t33 H =>
  pC call 246 [t0, t1] H fun t37 H =>
  pExt t37 0 H fun _ H =>
  pExt t37 1 H fun t39 H =>
  onBool t39 (pC call 22 [t0] H fun t42 H =>
  pC call 172 [t42, t33, (.int .i64 (.ofNat 0)), (.int .i64 (.negSucc 0))] H fun _ H =>
  S178_0 call t0 t1 t23 t29 t33 H) (S178_0 call t0 t1 t23 t29 t33 H))
noncomputable def S178_2 (call : CallFn) (t0 t1 : AV) (H : AHeap) : R :=
  pC call 213 [t0, t1] H fun t13 H =>
  pLss t13 (.int .i64 (.ofNat 1)) H fun t14 H =>
  guardA t14 false (pC call 214 [t0, t1] H fun t18 H =>
  pLss t18 (.int .i64 (.ofNat 1)) H fun t19 H =>
  S178_1 call t0 t1 t14 t19 H) (S178_1 call t0 t1 t14 U H)
noncomputable def S178 : Ff := ⟨fun call l H => argA2 (fun t0 t1 => S178_2 call t0 t1 H) l⟩
/- (gantline/vm.side).got -/
noncomputable def S179_0 (call : CallFn) (t3 : AV) (H : AHeap) : R :=
  pFa 0 t3 H fun t25 H =>
  ldK .none H t25 fun t26 H =>
  pFa 5 t3 H fun t27 H =>
  ldK .none H t27 fun t28 H =>
  pC call 154 [t26, t28] H fun _ H =>
  some (.tup [], H)
noncomputable def S179_1 (call : CallFn) (t2 t3 : AV) (H : AHeap) : R :=
  pFa 4 t3 H fun t15 H =>
  ldK .none H t15 fun t16 H =>
  pNeq t16 (.int .i64 (.negSucc 0)) H fun t17 H =>
  onBool t17 (pFa 0 t3 H fun t18 H =>
  ldK .none H t18 fun t19 H =>
  pFa 4 t3 H fun t20 H =>
  ldK .none H t20 fun t21 H =>
  pC call 153 [t2] H fun t23 H =>
  andR (andB (ckV (aLoad .none H t18) t19) (andB (ckV (aLoad .none H t20) t21) true)) (
  pC call 216 [t19, t21, t23] H fun _ H =>
  S179_0 call t3 H)) (S179_0 call t3 H)
noncomputable def S179_2 (call : CallFn) (t0 t1 t2 : AV) (H : AHeap) : R :=
  pBox t0 H fun t3 H =>
  pFa 3 t3 H fun t6 H =>
  ldK .none H t6 fun t7 H =>
  pNeq t7 (.int .i64 (.negSucc 0)) H fun t8 H =>
  onBool t8 (pFa 0 t3 H fun t9 H =>
  ldK .none H t9 fun t10 H =>
  pFa 3 t3 H fun t11 H =>
  ldK .none H t11 fun t12 H =>
  pC call 216 [t10, t12, t1] H fun _ H =>
  S179_1 call t2 t3 H) (S179_1 call t2 t3 H)
noncomputable def S179 : Ff := ⟨fun call l H => argA3 (fun t0 t1 t2 => S179_2 call t0 t1 t2 H) l⟩
/- slices.IndexFunc[[]int,int] -/
noncomputable def S180_0 (call : CallFn) (n : Nat) : AV → AV → AV → AV → AHeap → R :=
  Nat.rec (motive := fun _ => AV → AV → AV → AV → AHeap → R) (fun _ _ _ _ _ => none) (fun _ q0 t0 t1 t7 t8 H => pLss t8 t7 H fun t9 H =>
  onBool t9 (pIa 1 t0 t8 H fun t14 H =>
  ldK .none H t14 fun t15 H =>
  pV call t1 [t15] H fun t16 H =>
  onBool t16 (some (t8, H)) (pAdd t8 (.int .i64 (.ofNat 1)) H fun t18 H =>
  q0 t0 t1 t7 t18 H)) (some ((.int .i64 (.negSucc 0)), H))) n
noncomputable def S180_1 (call : CallFn) (t0 t1 : AV) (H : AHeap) : R :=
  pO (aLen .sl H t0) H fun t7 H =>
  S180_0 call 1000000 t0 t1 t7 (.int .i64 (.ofNat 0)) H
noncomputable def S180 : Ff := ⟨fun call l H => argA2 (fun t0 t1 => S180_1 call t0 t1 H) l⟩
/- (*gantline/cycle.Cycle).shades -/
noncomputable def S184_0 (_ : CallFn) (t8 t13 : AV) (H : AHeap) : R :=
  pPick t8 (.bool true) t13 H fun t14 H =>
  some (t14, H)
noncomputable def S184_1 (call : CallFn) (t0 : AV) (H : AHeap) : R :=
  pO (aNil t0) H fun t4 H =>
  pFa 4 t4 H fun t5 H =>
  ldK .none H t5 fun t6 H =>
  pEql t6 (.int .i64 (.ofNat 1)) H fun t7 H =>
  guardA t7 false (pO (aNil t0) H fun t10 H =>
  pFa 4 t10 H fun t11 H =>
  ldK .none H t11 fun t12 H =>
  pEql t12 (.int .i64 (.ofNat 2)) H fun t13 H =>
  S184_0 call t7 t13 H) (S184_0 call t7 U H)
noncomputable def S184 : Ff := ⟨fun call l H => argA1 (fun t0 => S184_1 call t0 H) l⟩
/- slices.Contains[[]int,int] -/
noncomputable def S185_0 (call : CallFn) (t0 t1 : AV) (H : AHeap) : R :=
  pC call 247 [t0, t1] H fun t7 H =>
  pGeq t7 (.int .i64 (.ofNat 0)) H fun t8 H =>
  some (t8, H)
noncomputable def S185 : Ff := ⟨fun call l H => argA2 (fun t0 t1 => S185_0 call t0 t1 H) l⟩
/- (*gantline/arena.Arena).word -/
noncomputable def S191_0 (_ : CallFn) (t0 t1 t2 t21 t28 : AV) (H : AHeap) : R :=
  pPick t21 (.bool true) t28 H fun t29 H =>
  onBool t29 (some (.nilp, H)) (pO (aNil t0) H fun t31 H =>
  pFa 0 t31 H fun t32 H =>
  ldK .none H t32 fun t33 H =>
  pAdd t1 t2 H fun t36 H =>
  pIa 1 t33 t36 H fun t37 H =>
  some (t37, H))
noncomputable def S191_1 (call : CallFn) (t0 t1 t2 t7 t17 t19 : AV) (H : AHeap) : R :=
  pPick t17 (.bool true) t19 H fun t20 H =>
  guardA t20 false (pO (aNil t7) H fun t24 H =>
  pFa 0 t24 H fun t25 H =>
  ldK .none H t25 fun t26 H =>
  pC call 123 [t26] H fun t27 H =>
  pGeq t2 t27 H fun t28 H =>
  S191_0 call t0 t1 t2 t20 t28 H) (S191_0 call t0 t1 t2 t20 U H)
noncomputable def S191_2 (call : CallFn) (t0 t1 t2 : AV) (H : AHeap) : R :=
  pC call 61 [t0, t1] H fun t12 H =>
  pExt t12 0 H fun t13 H =>
  pExt t12 1 H fun _ H =>
  pO (aEq false .ptr t13 .nilp) H fun t16 H =>
  guardA t16 false (pLss t2 (.int .i64 (.ofNat 0)) H fun t19 H =>
  S191_1 call t0 t1 t2 t13 t16 t19 H) (S191_1 call t0 t1 t2 t13 t16 U H)
noncomputable def S191 : Ff := ⟨fun call l H => argA3 (fun t0 t1 t2 => S191_2 call t0 t1 t2 H) l⟩
/- gantline/bits.Field -/
noncomputable def S192_0 (call : CallFn) (t0 t1 t2 : AV) (H : AHeap) : R :=
  pC call 252 [t1, t2] H fun t9 H =>
  pO (aUn .not t9) H fun t10 H =>
  onBool t10 (some ((.int .u64 (.ofNat 0)), H)) (pConv .u64 t1 H fun t13 H =>
  pO (aBin .shr t0 t13) H fun t14 H =>
  pC call 253 [t2] H fun t16 H =>
  pAnd t14 t16 H fun t17 H =>
  some (t17, H))
noncomputable def S192 : Ff := ⟨fun call l H => argA3 (fun t0 t1 t2 => S192_0 call t0 t1 t2 H) l⟩
/- gantline/head.may -/
noncomputable def S193_0 (_ : CallFn) (t26 t29 : AV) (H : AHeap) : R :=
  pPick t26 t29 (.bool false) H fun t30 H =>
  some (t30, H)
noncomputable def S193_1 (call : CallFn) (t1 t21 t24 : AV) (H : AHeap) : R :=
  pPick t21 t24 (.bool false) H fun t25 H =>
  guardA t25 true (pFa 2 t1 H fun t27 H =>
  ldK .none H t27 fun t28 H =>
  pLss t28 (.int .i64 (.ofNat 65536)) H fun t29 H =>
  S193_0 call t25 t29 H) (S193_0 call t25 U H)
noncomputable def S193_2 (call : CallFn) (t1 t16 t19 : AV) (H : AHeap) : R :=
  pPick t16 t19 (.bool false) H fun t20 H =>
  guardA t20 true (pFa 2 t1 H fun t22 H =>
  ldK .none H t22 fun t23 H =>
  pGeq t23 (.int .i64 (.ofNat 0)) H fun t24 H =>
  S193_1 call t1 t20 t24 H) (S193_1 call t1 t20 U H)
noncomputable def S193_3 (call : CallFn) (t1 t11 t14 : AV) (H : AHeap) : R :=
  pPick t11 t14 (.bool false) H fun t15 H =>
  guardA t15 true (pFa 1 t1 H fun t17 H =>
  ldK .none H t17 fun t18 H =>
  pLeq t18 (.int .i64 (.ofNat 3)) H fun t19 H =>
  S193_2 call t1 t15 t19 H) (S193_2 call t1 t15 U H)
noncomputable def S193_4 (call : CallFn) (t1 t6 t9 : AV) (H : AHeap) : R :=
  pPick t6 t9 (.bool false) H fun t10 H =>
  guardA t10 true (pFa 1 t1 H fun t12 H =>
  ldK .none H t12 fun t13 H =>
  pGeq t13 (.int .i64 (.ofNat 0)) H fun t14 H =>
  S193_3 call t1 t10 t14 H) (S193_3 call t1 t10 U H)
noncomputable def S193_5 (call : CallFn) (t0 : AV) (H : AHeap) : R :=
  pBox t0 H fun t1 H =>
  pFa 0 t1 H fun t3 H =>
  ldK .none H t3 fun t4 H =>
  pGeq t4 (.int .i64 (.ofNat 1)) H fun t5 H =>
  guardA t5 true (pFa 0 t1 H fun t7 H =>
  ldK .none H t7 fun t8 H =>
  pLeq t8 (.int .i64 (.ofNat 64)) H fun t9 H =>
  S193_4 call t1 t5 t9 H) (S193_4 call t1 t5 U H)
noncomputable def S193 : Ff := ⟨fun call l H => argA1 (fun t0 => S193_5 call t0 H) l⟩
/- gantline/live.Follows$1 -/
noncomputable def S197_0 (_ : CallFn) (t6 t11 : AV) (H : AHeap) : R :=
  pPick t6 (.bool true) t11 H fun t12 H =>
  some (t12, H)
noncomputable def S197_1 (call : CallFn) (t0 t1 : AV) (H : AHeap) : R :=
  pLss t0 (.int .i64 (.ofNat 0)) H fun t5 H =>
  guardA t5 false (pFa 5 t1 H fun t8 H =>
  ldK .none H t8 fun t9 H =>
  pO (aLen .sl H t9) H fun t10 H =>
  pGeq t0 t10 H fun t11 H =>
  S197_0 call t5 t11 H) (S197_0 call t5 U H)
noncomputable def S197 : Ff := ⟨fun call l H => argA2 (fun t0 t1 => S197_1 call t0 t1 H) l⟩
/- slices.Sort[[]int,int] -/
noncomputable def S198_0 (call : CallFn) (t0 : AV) (H : AHeap) : R :=
  pO (aLen .sl H t0) H fun t4 H =>
  pConv .u64 t4 H fun t8 H =>
  pC call 256 [t8] H fun t9 H =>
  pC call 257 [t0, (.int .i64 (.ofNat 0)), t4, t9] H fun _ H =>
  some (.tup [], H)
noncomputable def S198 : Ff := ⟨fun call l H => argA1 (fun t0 => S198_0 call t0 H) l⟩
/- slices.Compact[[]int,int] -/
noncomputable def S199_1 (_ : CallFn) (q0 : AV → AV → AHeap → R) (t0 t3 : AV) (H : AHeap) : R :=
  pAdd t3 (.int .i64 (.ofNat 1)) H fun t15 H =>
  q0 t0 t15 H
noncomputable def S199_2 (_ : CallFn) (t0 t3 : AV) (H : AHeap) : R :=
  pO (aSlice 1 H t0 (.some t3) .none .none) H fun t56 H =>
  pW (unitW (aClearS [(.int .i64 (.ofNat 0))] H t56)) fun _ H =>
  pO (aSlice 1 H t0 .none (.some t3) .none) H fun t59 H =>
  some (t59, H)
noncomputable def S199_4 (_ : CallFn) (q1 : AV → AV → AV → AV → AHeap → R) (t0 t3 t4 t5 : AV) (H : AHeap) : R :=
  pAdd t5 (.int .i64 (.ofNat 1)) H fun t34 H =>
  q1 t0 t3 t4 t34 H
noncomputable def S199_3 (call : CallFn) (n : Nat) : AV → AV → AV → AV → AHeap → R :=
  Nat.rec (motive := fun _ => AV → AV → AV → AV → AHeap → R) (fun _ _ _ _ _ => none) (fun _ q1 t0 t3 t4 t5 H => pO (aLen .sl H t4) H fun t31 H =>
  pLss t5 t31 H fun t32 H =>
  onBool t32 (pIa 1 t4 t5 H fun t37 H =>
  ldK .none H t37 fun t38 H =>
  pSub t5 (.int .i64 (.ofNat 1)) H fun t41 H =>
  pIa 1 t4 t41 H fun t42 H =>
  ldK .none H t42 fun t43 H =>
  pNeq t38 t43 H fun t44 H =>
  onBool t44 (pIa 1 t4 t5 H fun t49 H =>
  ldK .none H t49 fun t50 H =>
  pIa 1 t0 t3 H fun t51 H =>
  stK 1 H t51 t50 fun _ H =>
  pAdd t3 (.int .i64 (.ofNat 1)) H fun t53 H =>
  S199_4 call q1 t0 t53 t4 t5 H) (S199_4 call q1 t0 t3 t4 t5 H)) (S199_2 call t0 t3 H)) n
noncomputable def S199_0 (call : CallFn) (n : Nat) : AV → AV → AHeap → R :=
  Nat.rec (motive := fun _ => AV → AV → AHeap → R) (fun _ _ _ => none) (fun _ q0 t0 t3 H => pO (aLen .sl H t0) H fun t12 H =>
  pLss t3 t12 H fun t13 H =>
  onBool t13 (pIa 1 t0 t3 H fun t18 H =>
  ldK .none H t18 fun t19 H =>
  pSub t3 (.int .i64 (.ofNat 1)) H fun t22 H =>
  pIa 1 t0 t22 H fun t23 H =>
  ldK .none H t23 fun t24 H =>
  pEql t19 t24 H fun t25 H =>
  onBool t25 (pO (aSlice 1 H t0 (.some t3) .none .none) H fun t28 H =>
  S199_3 call 1000000 t0 t3 t28 (.int .i64 (.ofNat 1)) H) (S199_1 call q0 t0 t3 H)) (some (t0, H))) n
noncomputable def S199_5 (call : CallFn) (t0 : AV) (H : AHeap) : R :=
  pO (aLen .sl H t0) H fun t7 H =>
  pLss t7 (.int .i64 (.ofNat 2)) H fun t8 H =>
  onBool t8 (some (t0, H)) (S199_0 call 1000000 t0 (.int .i64 (.ofNat 1)) H)
noncomputable def S199 : Ff := ⟨fun call l H => argA1 (fun t0 => S199_5 call t0 H) l⟩
/- gantline/live.given -/
noncomputable def S202_0 (call : CallFn) (t0 : AV) (H : AHeap) : R :=
  pC call 108 [t0, (.fn 258 [] [])] H fun t4 H =>
  some (t4, H)
noncomputable def S202 : Ff := ⟨fun call l H => argA1 (fun t0 => S202_0 call t0 H) l⟩
/- gantline/verify.module -/
noncomputable def S206_0 (_ : CallFn) (t79 t82 : AV) (H : AHeap) : R :=
  pPick t79 (.bool true) t82 H fun t83 H =>
  onBool t83 (some ((.int .i64 (.ofNat 2)), H)) (some ((.int .i64 (.ofNat 0)), H))
noncomputable def S206_1 (call : CallFn) (t5 t74 t77 : AV) (H : AHeap) : R :=
  pPick t74 (.bool true) t77 H fun t78 H =>
  guardA t78 false (pFa 3 t5 H fun t80 H =>
  ldK .none H t80 fun t81 H =>
  pNeq t81 (.int .i64 (.ofNat 0)) H fun t82 H =>
  S206_0 call t78 t82 H) (S206_0 call t78 U H)
noncomputable def S206_2 (call : CallFn) (t1 t57 t63 : AV) (H : AHeap) : R :=
  pPick t57 (.bool true) t63 H fun t64 H =>
  onBool t64 (some ((.int .i64 (.ofNat 2)), H)) (pFa 4 t1 H fun t65 H =>
  ldK .none H t65 fun t66 H =>
  pFa 5 t1 H fun t67 H =>
  ldK .none H t67 fun t68 H =>
  pIa 7 t66 t68 H fun t69 H =>
  ldK (.some 7) H t69 fun t70 H =>
  pNew [(.int .i64 (.ofNat 0)), (.int .i64 (.ofNat 0)), (.int .i64 (.ofNat 0)), (.int .i64 (.ofNat 0)), .nilsl, .nilsl, .nilsl] H fun t5 H =>
  stK 7 H t5 t70 fun _ H =>
  pFa 0 t5 H fun t71 H =>
  ldK .none H t71 fun t72 H =>
  pNeq t72 (.int .i64 (.ofNat 0)) H fun t73 H =>
  guardA t73 false (pFa 1 t5 H fun t75 H =>
  ldK .none H t75 fun t76 H =>
  pNeq t76 (.int .i64 (.ofNat 0)) H fun t77 H =>
  S206_1 call t5 t73 t77 H) (S206_1 call t5 t73 U H))
noncomputable def S206_3 (call : CallFn) (t1 t47 t51 : AV) (H : AHeap) : R :=
  pPick t47 (.bool true) t51 H fun t52 H =>
  onBool t52 (some ((.int .i64 (.ofNat 1)), H)) (pFa 5 t1 H fun t54 H =>
  ldK .none H t54 fun t55 H =>
  pLss t55 (.int .i64 (.ofNat 0)) H fun t56 H =>
  guardA t56 false (pFa 5 t1 H fun t58 H =>
  ldK .none H t58 fun t59 H =>
  pFa 4 t1 H fun t60 H =>
  ldK .none H t60 fun t61 H =>
  pO (aLen .sl H t61) H fun t62 H =>
  pGeq t59 t62 H fun t63 H =>
  S206_2 call t1 t56 t63 H) (S206_2 call t1 t56 U H))
noncomputable def S206_4 (call : CallFn) (t1 t41 t45 : AV) (H : AHeap) : R :=
  pPick t41 (.bool true) t45 H fun t46 H =>
  guardA t46 false (pFa 4 t1 H fun t48 H =>
  ldK .none H t48 fun t49 H =>
  pO (aLen .sl H t49) H fun t50 H =>
  pLss t50 (.int .i64 (.ofNat 1)) H fun t51 H =>
  S206_3 call t1 t46 t51 H) (S206_3 call t1 t46 U H)
noncomputable def S206_5 (call : CallFn) (t1 t35 t39 : AV) (H : AHeap) : R :=
  pPick t35 (.bool true) t39 H fun t40 H =>
  guardA t40 false (pFa 4 t1 H fun t42 H =>
  ldK .none H t42 fun t43 H =>
  pO (aLen .sl H t43) H fun t44 H =>
  pGtr t44 (.int .i64 (.ofNat 128)) H fun t45 H =>
  S206_4 call t1 t40 t45 H) (S206_4 call t1 t40 U H)
noncomputable def S206_6 (call : CallFn) (t1 t29 t33 : AV) (H : AHeap) : R :=
  pPick t29 (.bool true) t33 H fun t34 H =>
  guardA t34 false (pFa 3 t1 H fun t36 H =>
  ldK .none H t36 fun t37 H =>
  pO (aLen .sl H t37) H fun t38 H =>
  pGtr t38 (.int .i64 (.ofNat 1024)) H fun t39 H =>
  S206_5 call t1 t34 t39 H) (S206_5 call t1 t34 U H)
noncomputable def S206_7 (call : CallFn) (t1 t4 t23 t27 : AV) (H : AHeap) : R :=
  pPick t23 (.bool true) t27 H fun t28 H =>
  guardA t28 false (pFa 2 t1 H fun t30 H =>
  ldK .none H t30 fun t31 H =>
  pC call 56 [t31, t4] H fun t33 H =>
  S206_6 call t1 t28 t33 H) (S206_6 call t1 t28 U H)
noncomputable def S206_8 (call : CallFn) (t1 t4 t17 t21 : AV) (H : AHeap) : R :=
  pPick t17 (.bool true) t21 H fun t22 H =>
  guardA t22 false (pFa 2 t1 H fun t24 H =>
  ldK .none H t24 fun t25 H =>
  pO (aLen .sl H t25) H fun t26 H =>
  pGtr t26 (.int .i64 (.ofNat 4096)) H fun t27 H =>
  S206_7 call t1 t4 t22 t27 H) (S206_7 call t1 t4 t22 U H)
noncomputable def S206_9 (call : CallFn) (t1 t4 t11 t15 : AV) (H : AHeap) : R :=
  pPick t11 (.bool true) t15 H fun t16 H =>
  guardA t16 false (pFa 1 t1 H fun t18 H =>
  ldK .none H t18 fun t19 H =>
  pO (aLen .sl H t19) H fun t20 H =>
  pGtr t20 (.int .i64 (.ofNat 256)) H fun t21 H =>
  S206_8 call t1 t4 t16 t21 H) (S206_8 call t1 t4 t16 U H)
noncomputable def S206_10 (call : CallFn) (t0 : AV) (H : AHeap) : R :=
  pBox t0 H fun t1 H =>
  pFa 0 t1 H fun t7 H =>
  ldK .none H t7 fun t8 H =>
  pC call 262 [t8, (.fn 260 [] [])] H fun t10 H =>
  guardA t10 false (pFa 0 t1 H fun t12 H =>
  ldK .none H t12 fun t13 H =>
  pO (aLen .sl H t13) H fun t14 H =>
  pGtr t14 (.int .i64 (.ofNat 1024)) H fun t15 H =>
  S206_9 call t1 (.fn 261 [] []) t10 t15 H) (S206_9 call t1 (.fn 261 [] []) t10 U H)
noncomputable def S206 : Ff := ⟨fun call l H => argA1 (fun t0 => S206_10 call t0 H) l⟩
/- gantline/verify.whole -/
noncomputable def S207_0 (_ : CallFn) (t73 t78 : AV) (H : AHeap) : R :=
  pPick t73 t78 (.bool false) H fun t79 H =>
  some (t79, H)
noncomputable def S207_1 (call : CallFn) (t1 t3 t69 t71 : AV) (H : AHeap) : R :=
  pPick t69 t71 (.bool false) H fun t72 H =>
  guardA t72 true (pFa 6 t1 H fun t74 H =>
  ldK .none H t74 fun t75 H =>
  pO (aLen .sl H t75) H fun t76 H =>
  pEql t76 t3 H fun t78 H =>
  S207_0 call t72 t78 H) (S207_0 call t72 U H)
noncomputable def S207_2 (call : CallFn) (t1 t3 t65 t67 : AV) (H : AHeap) : R :=
  pPick t65 t67 (.bool false) H fun t68 H =>
  guardA t68 true (pLeq t3 (.int .i64 (.ofNat 4096)) H fun t71 H =>
  S207_1 call t1 t3 t68 t71 H) (S207_1 call t1 t3 t68 U H)
noncomputable def S207_3 (call : CallFn) (t1 t3 t60 t63 : AV) (H : AHeap) : R :=
  pPick t60 t63 (.bool false) H fun t64 H =>
  guardA t64 true (pGeq t3 (.int .i64 (.ofNat 1)) H fun t67 H =>
  S207_2 call t1 t3 t64 t67 H) (S207_2 call t1 t3 t64 U H)
noncomputable def S207_4 (call : CallFn) (t1 t3 t55 t58 : AV) (H : AHeap) : R :=
  pPick t55 t58 (.bool false) H fun t59 H =>
  guardA t59 true (pFa 3 t1 H fun t61 H =>
  ldK .none H t61 fun t62 H =>
  pLeq t62 (.int .i64 (.ofNat 2)) H fun t63 H =>
  S207_3 call t1 t3 t59 t63 H) (S207_3 call t1 t3 t59 U H)
noncomputable def S207_5 (call : CallFn) (t1 t3 t47 t53 : AV) (H : AHeap) : R :=
  pPick t47 t53 (.bool false) H fun t54 H =>
  guardA t54 true (pFa 3 t1 H fun t56 H =>
  ldK .none H t56 fun t57 H =>
  pGeq t57 (.int .i64 (.ofNat 0)) H fun t58 H =>
  S207_4 call t1 t3 t54 t58 H) (S207_4 call t1 t3 t54 U H)
noncomputable def S207_6 (call : CallFn) (t1 t3 t37 t45 : AV) (H : AHeap) : R :=
  pPick t37 t45 (.bool false) H fun t46 H =>
  guardA t46 true (pFa 4 t1 H fun t48 H =>
  ldK .none H t48 fun t49 H =>
  pO (aLen .sl H t49) H fun t50 H =>
  pFa 2 t1 H fun t51 H =>
  ldK .none H t51 fun t52 H =>
  pEql t50 t52 H fun t53 H =>
  S207_5 call t1 t3 t46 t53 H) (S207_5 call t1 t3 t46 U H)
noncomputable def S207_7 (call : CallFn) (t1 t3 t30 t35 : AV) (H : AHeap) : R :=
  pPick t30 t35 (.bool false) H fun t36 H =>
  guardA t36 true (pFa 1 t1 H fun t38 H =>
  ldK .none H t38 fun t39 H =>
  pFa 2 t1 H fun t40 H =>
  ldK .none H t40 fun t41 H =>
  pFa 0 t1 H fun t42 H =>
  ldK .none H t42 fun t43 H =>
  pSub t41 t43 H fun t44 H =>
  pLeq t39 t44 H fun t45 H =>
  S207_6 call t1 t3 t36 t45 H) (S207_6 call t1 t3 t36 U H)
noncomputable def S207_8 (call : CallFn) (t1 t3 t25 t28 : AV) (H : AHeap) : R :=
  pPick t25 t28 (.bool false) H fun t29 H =>
  guardA t29 true (pFa 0 t1 H fun t31 H =>
  ldK .none H t31 fun t32 H =>
  pFa 2 t1 H fun t33 H =>
  ldK .none H t33 fun t34 H =>
  pLeq t32 t34 H fun t35 H =>
  S207_7 call t1 t3 t29 t35 H) (S207_7 call t1 t3 t29 U H)
noncomputable def S207_9 (call : CallFn) (t1 t3 t20 t23 : AV) (H : AHeap) : R :=
  pPick t20 t23 (.bool false) H fun t24 H =>
  guardA t24 true (pFa 2 t1 H fun t26 H =>
  ldK .none H t26 fun t27 H =>
  pLeq t27 (.int .i64 (.ofNat 64)) H fun t28 H =>
  S207_8 call t1 t3 t24 t28 H) (S207_8 call t1 t3 t24 U H)
noncomputable def S207_10 (call : CallFn) (t1 t3 t15 t18 : AV) (H : AHeap) : R :=
  pPick t15 t18 (.bool false) H fun t19 H =>
  guardA t19 true (pFa 2 t1 H fun t21 H =>
  ldK .none H t21 fun t22 H =>
  pGeq t22 (.int .i64 (.ofNat 0)) H fun t23 H =>
  S207_9 call t1 t3 t19 t23 H) (S207_9 call t1 t3 t19 U H)
noncomputable def S207_11 (call : CallFn) (t1 t3 t10 t13 : AV) (H : AHeap) : R :=
  pPick t10 t13 (.bool false) H fun t14 H =>
  guardA t14 true (pFa 1 t1 H fun t16 H =>
  ldK .none H t16 fun t17 H =>
  pLeq t17 (.int .i64 (.ofNat 62)) H fun t18 H =>
  S207_10 call t1 t3 t14 t18 H) (S207_10 call t1 t3 t14 U H)
noncomputable def S207_12 (call : CallFn) (t0 : AV) (H : AHeap) : R :=
  pBox t0 H fun t1 H =>
  pFa 5 t1 H fun t4 H =>
  ldK .none H t4 fun t5 H =>
  pO (aLen .sl H t5) H fun t6 H =>
  pFa 0 t1 H fun t7 H =>
  ldK .none H t7 fun t8 H =>
  pGeq t8 (.int .i64 (.ofNat 0)) H fun t9 H =>
  guardA t9 true (pFa 1 t1 H fun t11 H =>
  ldK .none H t11 fun t12 H =>
  pGeq t12 (.int .i64 (.ofNat 0)) H fun t13 H =>
  S207_11 call t1 t6 t9 t13 H) (S207_11 call t1 t6 t9 U H)
noncomputable def S207 : Ff := ⟨fun call l H => argA1 (fun t0 => S207_12 call t0 H) l⟩
/- (*gantline/verify.checker).rule -/
noncomputable def S208_0 (call : CallFn) (t0 t1 : AV) (H : AHeap) : R :=
  pEql t1 (.int .i64 (.ofNat 4)) H fun t7 H =>
  onBool t7 (pC call 263 [t0] H fun t9 H =>
  some (t9, H)) (pEql t1 (.int .i64 (.ofNat 5)) H fun t11 H =>
  onBool t11 (pC call 264 [t0] H fun t13 H =>
  some (t13, H)) (pEql t1 (.int .i64 (.ofNat 6)) H fun t15 H =>
  onBool t15 (pC call 265 [t0] H fun t17 H =>
  some (t17, H)) (pEql t1 (.int .i64 (.ofNat 7)) H fun t19 H =>
  onBool t19 (pC call 266 [t0] H fun t21 H =>
  some (t21, H)) (pEql t1 (.int .i64 (.ofNat 8)) H fun t23 H =>
  onBool t23 (pC call 267 [t0] H fun t25 H =>
  some (t25, H)) (pEql t1 (.int .i64 (.ofNat 9)) H fun t27 H =>
  onBool t27 (pO (aNil t0) H fun t29 H =>
  pFa 6 t29 H fun t30 H =>
  pFa 6 t30 H fun t31 H =>
  ldK .none H t31 fun t32 H =>
  pO (aNil t0) H fun t34 H =>
  pFa 16 t34 H fun t35 H =>
  ldK .none H t35 fun t36 H =>
  pIa 1 t32 t36 H fun t37 H =>
  ldK .none H t37 fun t38 H =>
  pO (aNil t0) H fun t40 H =>
  pFa 13 t40 H fun t41 H =>
  ldK .none H t41 fun t42 H =>
  pO (aNil t0) H fun t44 H =>
  pFa 16 t44 H fun t45 H =>
  ldK .none H t45 fun t46 H =>
  pIa 1 t42 t46 H fun t47 H =>
  ldK .none H t47 fun t48 H =>
  pEql t38 t48 H fun t49 H =>
  some (t49, H)) (pC call 268 [t0] H fun t51 H =>
  some (t51, H)))))))
noncomputable def S208 : Ff := ⟨fun call l H => argA2 (fun t0 t1 => S208_0 call t0 t1 H) l⟩
end Go.Proofs.YtggjnaeefpafhaaGreatDoor
