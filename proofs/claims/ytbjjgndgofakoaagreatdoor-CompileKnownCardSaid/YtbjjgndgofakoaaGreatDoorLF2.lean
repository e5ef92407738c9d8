/- Plain functions, printed: part 2. -/
import Derived.Test.YtbjjgndgofakoaaGreatDoorAdE
import Derived.Test.YtbjjgndgofakoaaGreatDoorProg
import Derived.KernelRfl
namespace Go.Proofs.YtbjjgndgofakoaaGreatDoor
open Go.Ab
set_option maxRecDepth 100000
/- slices.Clone[gantline/fresh.states,gantline/fresh.State] -/
noncomputable def S138_0 (_ : CallFn) (t0 : AV) (H : AHeap) : R :=
  pO (aEq false .sl t0 .nilsl) H fun t4 H =>
  onBool t4 (some (.nilsl, H)) (pN (aBsl 3 0 [(.bool false), (.bool false), (.int .u64 (.ofNat 0))] []) H fun t5 H =>
  pW (aApp 3 16 H t5 t0) fun t7 H =>
  some (t7, H))
noncomputable def S138 : Ff := ⟨fun call l H => argA1 (fun t0 => S138_0 call t0 H) l⟩
/- (gantline/fresh.states).lend -/
noncomputable def S139_1 (_ : CallFn) (q0 : AV → AV → AV → AV → AHeap → R) (t0 t6 t7 t8 : AV) (H : AHeap) : R :=
  pAdd t8 (.int .i64 (.ofNat 1)) H fun t24 H =>
  q0 t0 t6 t7 t24 H
noncomputable def S139_2 (call : CallFn) (q0 : AV → AV → AV → AV → AHeap → R) (t0 t5 t6 t7 t8 t14 t18 : AV) (H : AHeap) : R :=
  pPick t14 t18 (.bool false) H fun t19 H =>
  onBool t19 (pIa 3 t0 t5 H fun t22 H =>
  pFa 1 t22 H fun t23 H =>
  stK 1 H t23 (.bool false) fun _ H =>
  S139_1 call q0 t0 t6 t7 t8 H) (S139_1 call q0 t0 t6 t7 t8 H)
noncomputable def S139_0 (call : CallFn) (n : Nat) : AV → AV → AV → AV → AHeap → R :=
  Nat.rec (motive := fun _ => AV → AV → AV → AV → AHeap → R) (fun _ _ _ _ _ => none) (fun _ q0 t0 t6 t7 t8 H => pLss t8 t7 H fun t9 H =>
  onBool t9 (pIa 1 t6 t8 H fun t10 H =>
  ldK .none H t10 fun t11 H =>
  pGeq t11 (.int .i64 (.ofNat 0)) H fun t13 H =>
  guardA t13 true (pO (aLen .sl H t0) H fun t17 H =>
  pLss t11 t17 H fun t18 H =>
  S139_2 call q0 t0 t11 t6 t7 t8 t13 t18 H) (S139_2 call q0 t0 t11 t6 t7 t8 t13 U H)) (some (.tup [], H))) n
noncomputable def S139_3 (call : CallFn) (t0 t1 : AV) (H : AHeap) : R :=
  pO (aLen .sl H t1) H fun t7 H =>
  S139_0 call 1000000 t0 t1 t7 (.int .i64 (.ofNat 0)) H
noncomputable def S139 : Ff := ⟨fun call l H => argA2 (fun t0 t1 => S139_3 call t0 t1 H) l⟩
/- gantline/fresh.sent -/
noncomputable def S140_1 (_ : CallFn) (q0 : AV → AV → AV → AV → AHeap → R) (t5 t49 t50 t51 : AV) (H : AHeap) : R :=
  pAdd t51 (.int .i64 (.ofNat 1)) H fun t63 H =>
  q0 t5 t49 t50 t63 H
noncomputable def S140_0 (call : CallFn) (n : Nat) : AV → AV → AV → AV → AHeap → R :=
  Nat.rec (motive := fun _ => AV → AV → AV → AV → AHeap → R) (fun _ _ _ _ _ => none) (fun _ q0 t5 t49 t50 t51 H => pLss t51 t50 H fun t52 H =>
  onBool t52 (pIa 4 t49 t51 H fun t53 H =>
  ldK (.some 4) H t53 fun t54 H =>
  pNew [(.int .i64 (.ofNat 0)), (.int .i64 (.ofNat 0)), (.int .i64 (.ofNat 0)), (.int .i64 (.ofNat 0))] H fun t7 H =>
  stK 4 H t7 t54 fun _ H =>
  pFa 0 t7 H fun t55 H =>
  ldK .none H t55 fun t56 H =>
  pEql t56 (.int .i64 (.ofNat 1)) H fun t57 H =>
  onBool t57 (pFa 2 t7 H fun t59 H =>
  ldK .none H t59 fun t60 H =>
  pN (aBsl 1 1 [(.int .i64 (.ofNat 0))] [(0, 1, t60)]) H fun t61 H =>
  pW (aApp 1 8 H t5 t61) fun t62 H =>
  S140_1 call q0 t62 t49 t50 t51 H) (S140_1 call q0 t5 t49 t50 t51 H)) (some (t5, H))) n
noncomputable def S140_2 (call : CallFn) (t2 t3 t29 t38 : AV) (H : AHeap) : R :=
  pPick t29 (.bool true) t38 H fun t39 H =>
  onBool t39 (some (.nilsl, H)) (pFa 3 t2 H fun t40 H =>
  ldK .none H t40 fun t41 H =>
  pFa 1 t3 H fun t42 H =>
  ldK .none H t42 fun t43 H =>
  pFa 1 t3 H fun t44 H =>
  ldK .none H t44 fun t45 H =>
  pFa 2 t3 H fun t46 H =>
  ldK .none H t46 fun t47 H =>
  pAdd t45 t47 H fun t48 H =>
  pO (aSlice 4 H t41 (.some t43) (.some t48) .none) H fun t49 H =>
  pO (aLen .sl H t49) H fun t50 H =>
  S140_0 call 1000000 .nilsl t49 t50 (.int .i64 (.ofNat 0)) H)
noncomputable def S140_3 (call : CallFn) (t2 t3 t21 t27 : AV) (H : AHeap) : R :=
  pPick t21 (.bool true) t27 H fun t28 H =>
  guardA t28 false (pFa 2 t3 H fun t30 H =>
  ldK .none H t30 fun t31 H =>
  pFa 3 t2 H fun t32 H =>
  ldK .none H t32 fun t33 H =>
  pO (aLen .sl H t33) H fun t34 H =>
  pFa 1 t3 H fun t35 H =>
  ldK .none H t35 fun t36 H =>
  pSub t34 t36 H fun t37 H =>
  pGtr t31 t37 H fun t38 H =>
  S140_2 call t2 t3 t28 t38 H) (S140_2 call t2 t3 t28 U H)
noncomputable def S140_4 (call : CallFn) (t2 t3 t16 t19 : AV) (H : AHeap) : R :=
  pPick t16 (.bool true) t19 H fun t20 H =>
  guardA t20 false (pFa 1 t3 H fun t22 H =>
  ldK .none H t22 fun t23 H =>
  pFa 3 t2 H fun t24 H =>
  ldK .none H t24 fun t25 H =>
  pO (aLen .sl H t25) H fun t26 H =>
  pGtr t23 t26 H fun t27 H =>
  S140_3 call t2 t3 t20 t27 H) (S140_3 call t2 t3 t20 U H)
noncomputable def S140_5 (call : CallFn) (t2 t3 t11 t14 : AV) (H : AHeap) : R :=
  pPick t11 (.bool true) t14 H fun t15 H =>
  guardA t15 false (pFa 2 t3 H fun t17 H =>
  ldK .none H t17 fun t18 H =>
  pLss t18 (.int .i64 (.ofNat 0)) H fun t19 H =>
  S140_4 call t2 t3 t15 t19 H) (S140_4 call t2 t3 t15 U H)
noncomputable def S140_6 (call : CallFn) (t0 t1 : AV) (H : AHeap) : R :=
  pBox t0 H fun t2 H =>
  pBox t1 H fun t3 H =>
  pFa 0 t3 H fun t8 H =>
  ldK .none H t8 fun t9 H =>
  pNeq t9 (.int .i64 (.ofNat 41)) H fun t10 H =>
  guardA t10 false (pFa 1 t3 H fun t12 H =>
  ldK .none H t12 fun t13 H =>
  pLss t13 (.int .i64 (.ofNat 0)) H fun t14 H =>
  S140_5 call t2 t3 t10 t14 H) (S140_5 call t2 t3 t10 U H)
noncomputable def S140 : Ff := ⟨fun call l H => argA2 (fun t0 t1 => S140_6 call t0 t1 H) l⟩
/- gantline/fresh.behind -/
noncomputable def S141_0 (call : CallFn) (t2 t4 t8 : AV) (H : AHeap) : R :=
  pFa 1 t4 H fun t81 H =>
  ldK .none H t81 fun t82 H =>
  pNeq t8 (.int .i64 (.ofNat 36)) H fun t84 H =>
  pO (someAgg (aFill [(.bool false), (.bool false), (.int .u64 (.ofNat 0))] [(0, 1, (.bool true)), (1, 1, t84)])) H fun t85 H =>
  pC call 227 [t2, t82, t85] H fun _ H =>
  some (t2, H)
noncomputable def S141_1 (call : CallFn) (n : Nat) : AV → AV → AV → AV → AHeap → R :=
  Nat.rec (motive := fun _ => AV → AV → AV → AV → AHeap → R) (fun _ _ _ _ _ => none) (fun _ q0 t2 t59 t60 t61 H => pLss t61 t60 H fun t62 H =>
  onBool t62 (pIa 1 t59 t61 H fun t63 H =>
  ldK .none H t63 fun t64 H =>
  pO (someAgg (aFill [(.bool false), (.bool false), (.int .u64 (.ofNat 0))] [])) H fun t67 H =>
  pC call 227 [t2, t64, t67] H fun _ H =>
  pAdd t61 (.int .i64 (.ofNat 1)) H fun t69 H =>
  q0 t2 t59 t60 t69 H) (some (t2, H))) n
noncomputable def S141_2 (call : CallFn) (t2 t3 t4 : AV) (H : AHeap) : R :=
  ldK (.some 6) H t3 fun t57 H =>
  ldK (.some 5) H t4 fun t58 H =>
  pC call 230 [t57, t58] H fun t59 H =>
  pO (aLen .sl H t59) H fun t60 H =>
  S141_1 call 1000000 t2 t59 t60 (.int .i64 (.ofNat 0)) H
noncomputable def S141_3 (call : CallFn) (n : Nat) : AV → AV → AV → AV → AV → AV → AHeap → R :=
  Nat.rec (motive := fun _ => AV → AV → AV → AV → AV → AV → AHeap → R) (fun _ _ _ _ _ _ _ => none) (fun _ q1 t2 t3 t4 t46 t47 t48 H => pLss t48 t47 H fun t49 H =>
  onBool t49 (pIa 1 t46 t48 H fun t50 H =>
  ldK .none H t50 fun t51 H =>
  pO (someAgg (aFill [(.bool false), (.bool false), (.int .u64 (.ofNat 0))] [])) H fun t54 H =>
  pC call 227 [t2, t51, t54] H fun _ H =>
  pAdd t48 (.int .i64 (.ofNat 1)) H fun t56 H =>
  q1 t2 t3 t4 t46 t47 t56 H) (S141_2 call t2 t3 t4 H)) n
noncomputable def S141_4 (call : CallFn) (t2 t3 t4 : AV) (H : AHeap) : R :=
  ldK (.some 5) H t4 fun t45 H =>
  pC call 224 [t45] H fun t46 H =>
  pO (aLen .sl H t46) H fun t47 H =>
  S141_3 call 1000000 t2 t3 t4 t46 t47 (.int .i64 (.ofNat 0)) H
noncomputable def S141_5 (call : CallFn) (t2 t3 t4 t8 : AV) (H : AHeap) : R :=
  pEql t8 (.int .i64 (.ofNat 38)) H fun t39 H =>
  onBool t39 (pFa 2 t4 H fun t41 H =>
  ldK .none H t41 fun t42 H =>
  pN (aBsl 1 1 [(.int .i64 (.ofNat 0))] [(0, 1, t42)]) H fun t43 H =>
  pC call 139 [t2, t43] H fun _ H =>
  S141_4 call t2 t3 t4 H) (S141_4 call t2 t3 t4 H)
noncomputable def S141_6 (call : CallFn) (t2 t3 t4 t8 t128 t130 : AV) (H : AHeap) : R :=
  pPick t128 (.bool true) t130 H fun t131 H =>
  onBool t131 (pFa 1 t4 H fun t133 H =>
  ldK .none H t133 fun t134 H =>
  pC call 228 [t2, t134, (.int .u64 (.ofNat 18446744073709551615))] H fun _ H =>
  pFa 3 t4 H fun t137 H =>
  ldK .none H t137 fun t138 H =>
  pN (aBsl 1 1 [(.int .i64 (.ofNat 0))] [(0, 1, t138)]) H fun t139 H =>
  pC call 139 [t2, t139] H fun _ H =>
  some (t2, H)) (pC call 229 [t8] H fun t32 H =>
  onBool t32 (ldK (.some 6) H t3 fun t34 H =>
  ldK (.some 5) H t4 fun t35 H =>
  pC call 223 [t34, t35] H fun t36 H =>
  pC call 139 [t2, t36] H fun _ H =>
  S141_5 call t2 t3 t4 t8 H) (S141_5 call t2 t3 t4 t8 H))
noncomputable def S141_7 (call : CallFn) (t2 t3 t4 t8 t109 t111 : AV) (H : AHeap) : R :=
  pPick t109 (.bool true) t111 H fun t112 H =>
  onBool t112 (pFa 1 t4 H fun t114 H =>
  ldK .none H t114 fun t115 H =>
  pFa 2 t4 H fun t116 H =>
  ldK .none H t116 fun t117 H =>
  pC call 146 [t117] H fun t118 H =>
  andR (andB (ckV (aLoad .none H t114) t115) true) (
  pC call 228 [t2, t115, t118] H fun _ H =>
  pFa 3 t4 H fun t121 H =>
  ldK .none H t121 fun t122 H =>
  pN (aBsl 1 1 [(.int .i64 (.ofNat 0))] [(0, 1, t122)]) H fun t123 H =>
  pC call 139 [t2, t123] H fun _ H =>
  some (t2, H))) (pEql t8 (.int .i64 (.ofNat 31)) H fun t127 H =>
  guardA t127 false (pEql t8 (.int .i64 (.ofNat 32)) H fun t130 H =>
  S141_6 call t2 t3 t4 t8 t127 t130 H) (S141_6 call t2 t3 t4 t8 t127 U H))
noncomputable def S141_8 (call : CallFn) (t2 t3 t4 : AV) (H : AHeap) : R :=
  pFa 0 t4 H fun t29 H =>
  ldK .none H t29 fun t30 H =>
  pC call 226 [t30] H fun t72 H =>
  onBool t72 (pEql t30 (.int .i64 (.ofNat 36)) H fun t74 H =>
  onBool t74 (ldK (.some 6) H t3 fun t76 H =>
  ldK (.some 5) H t4 fun t77 H =>
  pC call 223 [t76, t77] H fun t78 H =>
  pC call 139 [t2, t78] H fun _ H =>
  S141_0 call t2 t4 t30 H) (S141_0 call t2 t4 t30 H)) (pEql t30 (.int .i64 (.ofNat 1)) H fun t89 H =>
  onBool t89 (pFa 2 t4 H fun t91 H =>
  ldK .none H t91 fun t92 H =>
  pC call 145 [t2, t92] H fun t93 H =>
  pO (aFld 0 .none t93) H fun t94 H =>
  pFa 2 t4 H fun t96 H =>
  ldK .none H t96 fun t97 H =>
  pN (aBsl 1 1 [(.int .i64 (.ofNat 0))] [(0, 1, t97)]) H fun t98 H =>
  pC call 139 [t2, t98] H fun _ H =>
  pFa 1 t4 H fun t101 H =>
  ldK .none H t101 fun t102 H =>
  pO (someAgg (aFill [(.bool false), (.bool false), (.int .u64 (.ofNat 0))] [(0, 1, t94)])) H fun t104 H =>
  pC call 227 [t2, t102, t104] H fun _ H =>
  some (t2, H)) (pEql t30 (.int .i64 (.ofNat 28)) H fun t108 H =>
  guardA t108 false (pEql t30 (.int .i64 (.ofNat 29)) H fun t111 H =>
  S141_7 call t2 t3 t4 t30 t108 t111 H) (S141_7 call t2 t3 t4 t30 t108 U H)))
noncomputable def S141_9 (call : CallFn) (n : Nat) : AV → AV → AV → AV → AV → AHeap → R :=
  Nat.rec (motive := fun _ => AV → AV → AV → AV → AV → AHeap → R) (fun _ _ _ _ _ _ => none) (fun _ q2 t2 t3 t4 t20 t21 H => pLss t21 t20 H fun t22 H =>
  onBool t22 (pIa 3 t2 t21 H fun t26 H =>
  pFa 0 t26 H fun t27 H =>
  stK 1 H t27 (.bool false) fun _ H =>
  pAdd t21 (.int .i64 (.ofNat 1)) H fun t28 H =>
  q2 t2 t3 t4 t20 t28 H) (S141_8 call t2 t3 t4 H)) n
noncomputable def S141_10 (call : CallFn) (t0 t1 t2 : AV) (H : AHeap) : R :=
  pBox t0 H fun t3 H =>
  pBox t1 H fun t4 H =>
  pC call 138 [t2] H fun t15 H =>
  pFa 0 t4 H fun t16 H =>
  ldK .none H t16 fun t17 H =>
  pC call 225 [t17] H fun t18 H =>
  onBool t18 (pO (aLen .sl H t15) H fun t20 H =>
  S141_9 call 1000000 t15 t3 t4 t20 (.int .i64 (.ofNat 0)) H) (S141_8 call t15 t3 t4 H)
noncomputable def S141 : Ff := ⟨fun call l H => argA3 (fun t0 t1 t2 => S141_10 call t0 t1 t2 H) l⟩
/- gantline/live.Follows -/
noncomputable def S142_0 (call : CallFn) (t4 t7 : AV) (H : AHeap) : R :=
  pC call 153 [t7, (.fn 231 [] [t4])] H fun t63 H =>
  pC call 232 [t63] H fun _ H =>
  pC call 233 [t63] H fun t67 H =>
  some (t67, H)
noncomputable def S142_1 (call : CallFn) (n : Nat) : AV → AV → AV → AV → AV → AHeap → R :=
  Nat.rec (motive := fun _ => AV → AV → AV → AV → AV → AHeap → R) (fun _ _ _ _ _ _ => none) (fun _ q0 t4 t7 t49 t50 t51 H => pLss t51 t50 H fun t52 H =>
  onBool t52 (pIa 4 t49 t51 H fun t53 H =>
  ldK (.some 4) H t53 fun t54 H =>
  pNew [(.int .i64 (.ofNat 0)), (.int .i64 (.ofNat 0)), (.int .i64 (.ofNat 0)), (.int .i64 (.ofNat 0))] H fun t10 H =>
  stK 4 H t10 t54 fun _ H =>
  pFa 3 t10 H fun t56 H =>
  ldK .none H t56 fun t57 H =>
  pN (aBsl 1 1 [(.int .i64 (.ofNat 0))] [(0, 1, t57)]) H fun t58 H =>
  pW (aApp 1 8 H t7 t58) fun t59 H =>
  pAdd t51 (.int .i64 (.ofNat 1)) H fun t60 H =>
  q0 t4 t59 t49 t50 t60 H) (S142_0 call t4 t7 H)) n
noncomputable def S142_2 (call : CallFn) (t2 t3 t4 t7 t8 t26 t42 : AV) (H : AHeap) : R :=
  onBool t42 (S142_0 call t4 t7 H) (pEql t26 (.int .i64 (.ofNat 41)) H fun t46 H =>
  onBool t46 (ldK (.some 6) H t3 fun t47 H =>
  ldK (.some 5) H t8 fun t48 H =>
  pC call 221 [t47, t48] H fun t49 H =>
  pO (aLen .sl H t49) H fun t50 H =>
  S142_1 call 1000000 t4 t7 t49 t50 (.int .i64 (.ofNat 0)) H) (pAdd t2 (.int .i64 (.ofNat 1)) H fun t28 H =>
  pN (aBsl 1 1 [(.int .i64 (.ofNat 0))] [(0, 1, t28)]) H fun t29 H =>
  S142_0 call t4 t29 H))
noncomputable def S142_3 (call : CallFn) (t2 t3 t4 t13 t18 : AV) (H : AHeap) : R :=
  pPick t13 (.bool true) t18 H fun t19 H =>
  onBool t19 (some (.nilsl, H)) (pFa 5 t4 H fun t20 H =>
  ldK .none H t20 fun t21 H =>
  pIa 5 t21 t2 H fun t23 H =>
  ldK (.some 5) H t23 fun t24 H =>
  pNew [(.int .i64 (.ofNat 0)), (.int .i64 (.ofNat 0)), (.int .i64 (.ofNat 0)), (.int .i64 (.ofNat 0)), (.int .i64 (.ofNat 0))] H fun t8 H =>
  stK 5 H t8 t24 fun _ H =>
  pFa 0 t8 H fun t25 H =>
  ldK .none H t25 fun t26 H =>
  pEql t26 (.int .i64 (.ofNat 18)) H fun t31 H =>
  onBool t31 (pFa 1 t8 H fun t32 H =>
  ldK .none H t32 fun t33 H =>
  pN (aBsl 1 1 [(.int .i64 (.ofNat 0))] [(0, 1, t33)]) H fun t34 H =>
  S142_0 call t4 t34 H) (pEql t26 (.int .i64 (.ofNat 19)) H fun t36 H =>
  onBool t36 (pFa 2 t8 H fun t37 H =>
  ldK .none H t37 fun t38 H =>
  pAdd t2 (.int .i64 (.ofNat 1)) H fun t40 H =>
  pN (aBsl 1 2 [(.int .i64 (.ofNat 0))] [(0, 1, t38), (1, 1, t40)]) H fun t41 H =>
  S142_0 call t4 t41 H) (pEql t26 (.int .i64 (.ofNat 22)) H fun t43 H =>
  onBool t43 (S142_2 call t2 t3 t4 .nilsl t8 t26 t43 H) (pEql t26 (.int .i64 (.ofNat 44)) H fun t44 H =>
  S142_2 call t2 t3 t4 .nilsl t8 t26 t44 H))))
noncomputable def S142_4 (call : CallFn) (t0 t1 t2 : AV) (H : AHeap) : R :=
  pBox t0 H fun t3 H =>
  pBox t1 H fun t4 H =>
  pLss t2 (.int .i64 (.ofNat 0)) H fun t12 H =>
  guardA t12 false (pFa 5 t4 H fun t15 H =>
  ldK .none H t15 fun t16 H =>
  pO (aLen .sl H t16) H fun t17 H =>
  pGeq t2 t17 H fun t18 H =>
  S142_3 call t2 t3 t4 t12 t18 H) (S142_3 call t2 t3 t4 t12 U H)
noncomputable def S142 : Ff := ⟨fun call l H => argA3 (fun t0 t1 t2 => S142_4 call t0 t1 t2 H) l⟩
/- gantline/fresh.meet -/
noncomputable def S143_1 (_ : CallFn) (q0 : AV → AV → AV → AV → AV → AHeap → R) (t0 t1 t5 t6 t10 t11 t14 t15 t27 t33 t38 : AV) (H : AHeap) : R :=
  pPick t33 t38 (.bool false) H fun t39 H =>
  pIa 3 t0 t6 H fun t42 H =>
  pFa 2 t42 H fun t43 H =>
  ldK .none H t43 fun t44 H =>
  pIa 3 t1 t6 H fun t47 H =>
  pFa 2 t47 H fun t48 H =>
  ldK .none H t48 fun t49 H =>
  pOr t44 t49 H fun t50 H =>
  pO (someAgg (aFill [(.bool false), (.bool false), (.int .u64 (.ofNat 0))] [(0, 1, t27), (1, 1, t39), (2, 1, t50)])) H fun t51 H =>
  pIa 3 t14 t15 H fun t52 H =>
  stK 3 H t52 t51 fun _ H =>
  pAdd t11 (.int .i64 (.ofNat 1)) H fun t53 H =>
  q0 t0 t1 t5 t10 t53 H
noncomputable def S143_2 (call : CallFn) (q0 : AV → AV → AV → AV → AV → AHeap → R) (t0 t1 t5 t6 t10 t11 t14 t15 t27 t33 t37 : AV) (H : AHeap) : R :=
  guardA t33 true (ldK .none H t37 fun t38 H =>
  S143_1 call q0 t0 t1 t5 t6 t10 t11 t14 t15 t27 t33 t38 H) (S143_1 call q0 t0 t1 t5 t6 t10 t11 t14 t15 t27 t33 U H)
noncomputable def S143_3 (call : CallFn) (q0 : AV → AV → AV → AV → AV → AHeap → R) (t0 t1 t5 t6 t10 t11 t14 t15 t27 t33 t36 : AV) (H : AHeap) : R :=
  guardA t33 true (pFa 1 t36 H fun t37 H =>
  S143_2 call q0 t0 t1 t5 t6 t10 t11 t14 t15 t27 t33 t37 H) (S143_2 call q0 t0 t1 t5 t6 t10 t11 t14 t15 t27 t33 U H)
noncomputable def S143_4 (call : CallFn) (q0 : AV → AV → AV → AV → AV → AHeap → R) (t0 t1 t5 t6 t10 t11 t14 t15 t27 t33 t34 t35 : AV) (H : AHeap) : R :=
  guardA t33 true (pIa 3 t34 t35 H fun t36 H =>
  S143_3 call q0 t0 t1 t5 t6 t10 t11 t14 t15 t27 t33 t36 H) (S143_3 call q0 t0 t1 t5 t6 t10 t11 t14 t15 t27 t33 U H)
noncomputable def S143_5 (call : CallFn) (q0 : AV → AV → AV → AV → AV → AHeap → R) (t0 t1 t5 t6 t10 t11 t14 t15 t27 t33 t34 : AV) (H : AHeap) : R :=
  guardA t33 true (S143_4 call q0 t0 t1 t5 t6 t10 t11 t14 t15 t27 t33 t34 t6 H) (S143_4 call q0 t0 t1 t5 t6 t10 t11 t14 t15 t27 t33 t34 U H)
noncomputable def S143_6 (call : CallFn) (q0 : AV → AV → AV → AV → AV → AHeap → R) (t0 t1 t5 t6 t10 t11 t14 t15 t21 t26 : AV) (H : AHeap) : R :=
  pPick t21 t26 (.bool false) H fun t27 H =>
  pIa 3 t0 t6 H fun t30 H =>
  pFa 1 t30 H fun t31 H =>
  ldK .none H t31 fun t32 H =>
  guardA t32 true (S143_5 call q0 t0 t1 t5 t6 t10 t11 t14 t15 t27 t32 t1 H) (S143_5 call q0 t0 t1 t5 t6 t10 t11 t14 t15 t27 t32 U H)
noncomputable def S143_7 (call : CallFn) (q0 : AV → AV → AV → AV → AV → AHeap → R) (t0 t1 t5 t6 t10 t11 t14 t15 t21 t25 : AV) (H : AHeap) : R :=
  guardA t21 true (ldK .none H t25 fun t26 H =>
  S143_6 call q0 t0 t1 t5 t6 t10 t11 t14 t15 t21 t26 H) (S143_6 call q0 t0 t1 t5 t6 t10 t11 t14 t15 t21 U H)
noncomputable def S143_8 (call : CallFn) (q0 : AV → AV → AV → AV → AV → AHeap → R) (t0 t1 t5 t6 t10 t11 t14 t15 t21 t24 : AV) (H : AHeap) : R :=
  guardA t21 true (pFa 0 t24 H fun t25 H =>
  S143_7 call q0 t0 t1 t5 t6 t10 t11 t14 t15 t21 t25 H) (S143_7 call q0 t0 t1 t5 t6 t10 t11 t14 t15 t21 U H)
noncomputable def S143_9 (call : CallFn) (q0 : AV → AV → AV → AV → AV → AHeap → R) (t0 t1 t5 t6 t10 t11 t14 t15 t21 t22 t23 : AV) (H : AHeap) : R :=
  guardA t21 true (pIa 3 t22 t23 H fun t24 H =>
  S143_8 call q0 t0 t1 t5 t6 t10 t11 t14 t15 t21 t24 H) (S143_8 call q0 t0 t1 t5 t6 t10 t11 t14 t15 t21 U H)
noncomputable def S143_10 (call : CallFn) (q0 : AV → AV → AV → AV → AV → AHeap → R) (t0 t1 t5 t6 t10 t11 t14 t15 t21 t22 : AV) (H : AHeap) : R :=
  guardA t21 true (S143_9 call q0 t0 t1 t5 t6 t10 t11 t14 t15 t21 t22 t6 H) (S143_9 call q0 t0 t1 t5 t6 t10 t11 t14 t15 t21 t22 U H)
noncomputable def S143_0 (call : CallFn) (n : Nat) : AV → AV → AV → AV → AV → AHeap → R :=
  Nat.rec (motive := fun _ => AV → AV → AV → AV → AV → AHeap → R) (fun _ _ _ _ _ _ => none) (fun _ q0 t0 t1 t5 t10 t11 H => pLss t11 t10 H fun t12 H =>
  onBool t12 (pIa 3 t0 t11 H fun t18 H =>
  pFa 0 t18 H fun t19 H =>
  ldK .none H t19 fun t20 H =>
  guardA t20 true (S143_10 call q0 t0 t1 t5 t11 t10 t11 t5 t11 t20 t1 H) (S143_10 call q0 t0 t1 t5 t11 t10 t11 t5 t11 t20 U H)) (some (t5, H))) n
noncomputable def S143_11 (call : CallFn) (t0 t1 : AV) (H : AHeap) : R :=
  pC call 138 [t0] H fun t8 H =>
  pO (aLen .sl H t8) H fun t10 H =>
  S143_0 call 1000000 t0 t1 t8 t10 (.int .i64 (.ofNat 0)) H
noncomputable def S143 : Ff := ⟨fun call l H => argA2 (fun t0 t1 => S143_11 call t0 t1 H) l⟩
/- slices.Equal[gantline/fresh.states,gantline/fresh.State] -/
noncomputable def S144_0 (_ : CallFn) (n : Nat) : AV → AV → AV → AV → AHeap → R :=
  Nat.rec (motive := fun _ => AV → AV → AV → AV → AHeap → R) (fun _ _ _ _ _ => none) (fun _ q0 t0 t1 t12 t13 H => pLss t13 t12 H fun t14 H =>
  onBool t14 (pIa 3 t0 t13 H fun t18 H =>
  ldK (.some 3) H t18 fun t19 H =>
  pIa 3 t1 t13 H fun t22 H =>
  ldK (.some 3) H t22 fun t23 H =>
  pO (aEq true (.struct [(0, .none, .bool), (1, .none, .bool), (2, .none, .int)]) t19 t23) H fun t24 H =>
  onBool t24 (some ((.bool false), H)) (pAdd t13 (.int .i64 (.ofNat 1)) H fun t25 H =>
  q0 t0 t1 t12 t25 H)) (some ((.bool true), H))) n
noncomputable def S144_1 (call : CallFn) (t0 t1 : AV) (H : AHeap) : R :=
  pO (aLen .sl H t0) H fun t7 H =>
  pO (aLen .sl H t1) H fun t9 H =>
  pNeq t7 t9 H fun t10 H =>
  onBool t10 (some ((.bool false), H)) (pO (aLen .sl H t0) H fun t12 H =>
  S144_0 call 1000000 t0 t1 t12 (.int .i64 (.ofNat 0)) H)
noncomputable def S144 : Ff := ⟨fun call l H => argA2 (fun t0 t1 => S144_1 call t0 t1 H) l⟩
/- gantline/arena.New -/
noncomputable def S147_0 (_ : CallFn) (n : Nat) : AV → AV → AV → AHeap → R :=
  Nat.rec (motive := fun _ => AV → AV → AV → AHeap → R) (fun _ _ _ _ => none) (fun _ q0 t4 t23 t24 H => pLss t24 t23 H fun t25 H =>
  onBool t25 (pO (aNil t4) H fun t28 H =>
  pFa 1 t28 H fun t29 H =>
  ldK .none H t29 fun t30 H =>
  pIa 3 t30 t24 H fun t32 H =>
  pFa 0 t32 H fun t33 H =>
  stK 1 H t33 (.int .i64 (.negSucc 0)) fun _ H =>
  pAdd t24 (.int .i64 (.ofNat 1)) H fun t34 H =>
  q0 t4 t23 t34 H) (some (.tup [t4, (.int .i64 (.ofNat 0))], H))) n
noncomputable def S147_1 (call : CallFn) (t0 t8 t10 : AV) (H : AHeap) : R :=
  pPick t8 (.bool true) t10 H fun t11 H =>
  onBool t11 (some (.tup [.nilp, (.int .i64 (.ofNat 1))], H)) (pMul t0 (.int .i64 (.ofNat 64)) H fun t13 H =>
  pN (aMksl 1 8 [(.int .i64 (.ofNat 0))] t13 t13) H fun t14 H =>
  pN (aMksl 3 24 [(.int .i64 (.ofNat 0)), (.int .u64 (.ofNat 0)), (.int .u64 (.ofNat 0))] t0 t0) H fun t16 H =>
  pO (someAgg (aFill [.nilsl, .nilsl] [(0, 1, t14), (1, 1, t16)])) H fun t17 H =>
  pBox t17 H fun t18 H =>
  pO (aNil t18) H fun t20 H =>
  pFa 1 t20 H fun t21 H =>
  ldK .none H t21 fun t22 H =>
  pO (aLen .sl H t22) H fun t23 H =>
  S147_0 call 1000000 t18 t23 (.int .i64 (.ofNat 0)) H)
noncomputable def S147_2 (call : CallFn) (t0 : AV) (H : AHeap) : R :=
  pLss t0 (.int .i64 (.ofNat 8)) H fun t7 H =>
  guardA t7 false (pGtr t0 (.int .i64 (.ofNat 512)) H fun t10 H =>
  S147_1 call t0 t7 t10 H) (S147_1 call t0 t7 U H)
noncomputable def S147 : Ff := ⟨fun call l H => argA1 (fun t0 => S147_2 call t0 H) l⟩
/- gantline/head.New -/
noncomputable def S148_0 (_ : CallFn) (H : AHeap) : R :=
  pMap H fun t1 H =>
  pO (someAgg (aFill [.nilsl, .nilmap] [(1, 1, t1)])) H fun t2 H =>
  pBox t2 H fun t3 H =>
  some (t3, H)
noncomputable def S148 : Ff := ⟨fun call l H => argA0 (S148_0 call H) l⟩
/- gantline/alloc.New -/
noncomputable def S149_0 (call : CallFn) (t0 : AV) (H : AHeap) : R :=
  pC call 234 [t0] H fun t5 H =>
  pN (aMksl 1 1 [(.bool false)] t5 t5) H fun t6 H =>
  pO (someAgg (aFill [.nilp, .nilsl] [(0, 1, t0), (1, 1, t6)])) H fun t7 H =>
  pBox t7 H fun t8 H =>
  some (t8, H)
noncomputable def S149 : Ff := ⟨fun call l H => argA1 (fun t0 => S149_0 call t0 H) l⟩
/- gantline/mark.New -/
noncomputable def S150_0 (call : CallFn) (t0 t1 : AV) (H : AHeap) : R :=
  pC call 235 [] H fun t7 H =>
  pO (someAgg (aFill [.nilp, .nilp, .nilp] [(0, 1, t0), (1, 1, t1), (2, 1, t7)])) H fun t8 H =>
  pBox t8 H fun t9 H =>
  some (t9, H)
noncomputable def S150 : Ff := ⟨fun call l H => argA2 (fun t0 t1 => S150_0 call t0 t1 H) l⟩
/- gantline/frame.begin -/
noncomputable def S152_0 (_ : CallFn) (t1 t2 t6 t8 t40 t43 : AV) (H : AHeap) : R :=
  pPick t40 (.bool true) t43 H fun t44 H =>
  onBool t44 (pO (someAgg (aFill [(.int .i64 (.ofNat 0)), (.int .i64 (.ofNat 0)), .nilsl] [])) H fun t45 H =>
  stK 3 H t6 t45 fun _ H =>
  ob (allM (fun o => o) [aLoad (.some 3) H t6, some (.int .i64 (.ofNat 1))]) fun vs => some (resV vs, H)) (pFa 2 t8 H fun t46 H =>
  ldK .none H t46 fun t47 H =>
  pN (aMksl 1 8 [(.int .i64 (.ofNat 0))] t47 t47) H fun t48 H =>
  pW (aCopy 1 H t48 t2) fun _ H =>
  pO (someAgg (aFill [(.int .i64 (.ofNat 0)), (.int .i64 (.ofNat 0)), .nilsl] [(0, 1, t1), (2, 1, t48)])) H fun t54 H =>
  stK 3 H t6 t54 fun _ H =>
  ob (allM (fun o => o) [aLoad (.some 3) H t6, some (.int .i64 (.ofNat 0))]) fun vs => some (resV vs, H))
noncomputable def S152_1 (call : CallFn) (t1 t2 t6 t8 t33 t38 : AV) (H : AHeap) : R :=
  pPick t33 (.bool true) t38 H fun t39 H =>
  guardA t39 false (pFa 2 t8 H fun t41 H =>
  ldK .none H t41 fun t42 H =>
  pGtr t42 (.int .i64 (.ofNat 64)) H fun t43 H =>
  S152_0 call t1 t2 t6 t8 t39 t43 H) (S152_0 call t1 t2 t6 t8 t39 U H)
noncomputable def S152_2 (call : CallFn) (t1 t2 t3 t6 t12 t17 : AV) (H : AHeap) : R :=
  pPick t12 (.bool true) t17 H fun t18 H =>
  onBool t18 (pO (someAgg (aFill [(.int .i64 (.ofNat 0)), (.int .i64 (.ofNat 0)), .nilsl] [])) H fun t19 H =>
  stK 3 H t6 t19 fun _ H =>
  ob (allM (fun o => o) [aLoad (.some 3) H t6, some (.int .i64 (.ofNat 1))]) fun vs => some (resV vs, H)) (pFa 4 t3 H fun t20 H =>
  ldK .none H t20 fun t21 H =>
  pIa 7 t21 t1 H fun t23 H =>
  ldK (.some 7) H t23 fun t24 H =>
  pNew [(.int .i64 (.ofNat 0)), (.int .i64 (.ofNat 0)), (.int .i64 (.ofNat 0)), (.int .i64 (.ofNat 0)), .nilsl, .nilsl, .nilsl] H fun t8 H =>
  stK 7 H t8 t24 fun _ H =>
  pO (aLen .sl H t2) H fun t26 H =>
  pFa 0 t8 H fun t27 H =>
  ldK .none H t27 fun t28 H =>
  pFa 1 t8 H fun t29 H =>
  ldK .none H t29 fun t30 H =>
  pAdd t28 t30 H fun t31 H =>
  pNeq t26 t31 H fun t32 H =>
  guardA t32 false (pO (aLen .sl H t2) H fun t35 H =>
  pFa 2 t8 H fun t36 H =>
  ldK .none H t36 fun t37 H =>
  pGtr t35 t37 H fun t38 H =>
  S152_1 call t1 t2 t6 t8 t32 t38 H) (S152_1 call t1 t2 t6 t8 t32 U H))
noncomputable def S152_3 (call : CallFn) (t0 t1 t2 : AV) (H : AHeap) : R :=
  pBox t0 H fun t3 H =>
  pNew [(.int .i64 (.ofNat 0)), (.int .i64 (.ofNat 0)), .nilsl] H fun t6 H =>
  pLss t1 (.int .i64 (.ofNat 0)) H fun t11 H =>
  guardA t11 false (pFa 4 t3 H fun t14 H =>
  ldK .none H t14 fun t15 H =>
  pO (aLen .sl H t15) H fun t16 H =>
  pGeq t1 t16 H fun t17 H =>
  S152_2 call t1 t2 t3 t6 t11 t17 H) (S152_2 call t1 t2 t3 t6 t11 U H)
noncomputable def S152 : Ff := ⟨fun call l H => argA3 (fun t0 t1 t2 => S152_3 call t0 t1 t2 H) l⟩
/- slices.DeleteFunc[[]int,int] -/
noncomputable def S153_0 (_ : CallFn) (t0 t5 : AV) (H : AHeap) : R :=
  pO (aSlice 1 H t0 (.some t5) .none .none) H fun t38 H =>
  pW (unitW (aClearS [(.int .i64 (.ofNat 0))] H t38)) fun _ H =>
  pO (aSlice 1 H t0 .none (.some t5) .none) H fun t41 H =>
  some (t41, H)
noncomputable def S153_2 (_ : CallFn) (q0 : AV → AV → AV → AV → AHeap → R) (t0 t1 t5 t6 : AV) (H : AHeap) : R :=
  pAdd t6 (.int .i64 (.ofNat 1)) H fun t21 H =>
  q0 t0 t1 t5 t21 H
noncomputable def S153_1 (call : CallFn) (n : Nat) : AV → AV → AV → AV → AHeap → R :=
  Nat.rec (motive := fun _ => AV → AV → AV → AV → AHeap → R) (fun _ _ _ _ _ => none) (fun _ q0 t0 t1 t5 t6 H => pO (aLen .sl H t0) H fun t18 H =>
  pLss t6 t18 H fun t19 H =>
  onBool t19 (pIa 1 t0 t6 H fun t24 H =>
  ldK .none H t24 fun t25 H =>
  pV call t1 [t25] H fun t28 H =>
  pO (aUn .not t28) H fun t29 H =>
  onBool t29 (pIa 1 t0 t5 H fun t33 H =>
  stK 1 H t33 t25 fun _ H =>
  pAdd t5 (.int .i64 (.ofNat 1)) H fun t35 H =>
  S153_2 call q0 t0 t1 t35 t6 H) (S153_2 call q0 t0 t1 t5 t6 H)) (S153_0 call t0 t5 H)) n
noncomputable def S153_3 (call : CallFn) (t0 t1 : AV) (H : AHeap) : R :=
  pC call 236 [t0, t1] H fun t10 H =>
  pEql t10 (.int .i64 (.negSucc 0)) H fun t12 H =>
  onBool t12 (some (t0, H)) (pAdd t10 (.int .i64 (.ofNat 1)) H fun t15 H =>
  S153_1 call 1000000 t0 t1 t10 t15 H)
noncomputable def S153 : Ff := ⟨fun call l H => argA2 (fun t0 t1 => S153_3 call t0 t1 H) l⟩
/- (*gantline/sched.Table).IDs -/
noncomputable def S154_0 (call : CallFn) (t0 : AV) (H : AHeap) : R :=
  pO (aNil t0) H fun t4 H =>
  pFa 6 t4 H fun t5 H =>
  ldK .none H t5 fun t6 H =>
  pC call 238 [t6] H fun t7 H =>
  pC call 237 [t7] H fun t8 H =>
  some (t8, H)
noncomputable def S154 : Ff := ⟨fun call l H => argA1 (fun t0 => S154_0 call t0 H) l⟩
/- (*gantline/sched.Table).Enabled$1 -/
noncomputable def S155_0 (call : CallFn) (t0 t1 t2 : AV) (H : AHeap) : R :=
  ldK .none H t1 fun t5 H =>
  ldK .none H t2 fun t6 H =>
  pC call 156 [t5, t6, t0] H fun t8 H =>
  pO (aLen .sl H t8) H fun t9 H =>
  pEql t9 (.int .i64 (.ofNat 0)) H fun t10 H =>
  some (t10, H)
noncomputable def S155 : Ff := ⟨fun call l H => argA3 (fun t0 t1 t2 => S155_0 call t0 t1 t2 H) l⟩
/- (*gantline/sched.Table).Ways -/
noncomputable def S156_0 (_ : CallFn) (t11 t12 t74 t76 : AV) (H : AHeap) : R :=
  pPick t74 t76 (.bool false) H fun t77 H =>
  onBool t77 (pO (someAgg (aFill [(.int .i64 (.ofNat 0)), (.int .i64 (.ofNat 0)), (.int .i64 (.ofNat 0))] [(0, 1, t11), (1, 1, (.int .i64 (.ofNat 0))), (2, 1, (.int .i64 (.negSucc 0)))])) H fun t79 H =>
  pN (aBsl 3 1 [(.int .i64 (.ofNat 0)), (.int .i64 (.ofNat 0)), (.int .i64 (.ofNat 0))] [(0, 3, t79)]) H fun t80 H =>
  some (t80, H)) (some (t12, H))
noncomputable def S156_1 (call : CallFn) (t11 t12 : AV) (H : AHeap) : R :=
  pO (aLen .sl H t12) H fun t72 H =>
  pEql t72 (.int .i64 (.ofNat 0)) H fun t73 H =>
  guardA t73 true (pNeq t11 (.int .i64 (.negSucc 0)) H fun t76 H =>
  S156_0 call t11 t12 t73 t76 H) (S156_0 call t11 t12 t73 U H)
noncomputable def S156_2 (call : CallFn) (n : Nat) : AV → AV → AV → AV → AV → AV → AV → AV → AHeap → R :=
  Nat.rec (motive := fun _ => AV → AV → AV → AV → AV → AV → AV → AV → AHeap → R) (fun _ _ _ _ _ _ _ _ _ => none) (fun _ q0 t0 t1 t2 t11 t12 t57 t58 t59 H => pLss t59 t58 H fun t60 H =>
  onBool t60 (pIa 4 t57 t59 H fun t61 H =>
  ldK (.some 4) H t61 fun t62 H =>
  pNew [(.int .i64 (.ofNat 0)), (.bool false), (.int .i64 (.ofNat 0)), (.bool false)] H fun t14 H =>
  stK 4 H t14 t62 fun _ H =>
  ldK (.some 4) H t14 fun t67 H =>
  pC call 240 [t0, t1, t2, t67] H fun t68 H =>
  pW (aApp 3 24 H t12 t68) fun t69 H =>
  pAdd t59 (.int .i64 (.ofNat 1)) H fun t70 H =>
  q0 t0 t1 t2 t11 t69 t57 t58 t70 H) (S156_1 call t11 t12 H)) n
noncomputable def S156_3 (call : CallFn) (t0 t1 t2 t7 t8 t42 t45 : AV) (H : AHeap) : R :=
  pPick t42 t45 (.bool false) H fun t46 H =>
  onBool t46 (pO (someAgg (aFill [(.int .i64 (.ofNat 0)), (.int .i64 (.ofNat 0)), (.int .i64 (.ofNat 0))] [(0, 1, (.int .i64 (.negSucc 0))), (1, 1, (.int .i64 (.ofNat 0))), (2, 1, (.int .i64 (.negSucc 0)))])) H fun t47 H =>
  pN (aBsl 3 1 [(.int .i64 (.ofNat 0)), (.int .i64 (.ofNat 0)), (.int .i64 (.ofNat 0))] [(0, 3, t47)]) H fun t48 H =>
  some (t48, H)) (ldK (.some 5) H t8 fun t53 H =>
  pC call 239 [t0, t1, t7, t53] H fun t54 H =>
  pExt t54 0 H fun t55 H =>
  pExt t54 1 H fun t56 H =>
  pO (aLen .sl H t55) H fun t58 H =>
  S156_2 call 1000000 t0 t1 t2 t56 .nilsl t55 t58 (.int .i64 (.ofNat 0)) H)
noncomputable def S156_4 (call : CallFn) (t0 t1 t2 t7 t8 t37 t40 : AV) (H : AHeap) : R :=
  pPick t37 t40 (.bool false) H fun t41 H =>
  guardA t41 true (pFa 0 t8 H fun t43 H =>
  ldK .none H t43 fun t44 H =>
  pNeq t44 (.int .i64 (.ofNat 41)) H fun t45 H =>
  S156_3 call t0 t1 t2 t7 t8 t41 t45 H) (S156_3 call t0 t1 t2 t7 t8 t41 U H)
noncomputable def S156_5 (call : CallFn) (t0 t1 t2 : AV) (H : AHeap) : R :=
  pO (aNil t0) H fun t16 H =>
  pFa 6 t16 H fun t17 H =>
  ldK .none H t17 fun t18 H =>
  pO (aLook .int .nilp false H t18 t2) H fun t20 H =>
  pO (aEq false .ptr t20 .nilp) H fun t22 H =>
  onBool t22 (some (.nilsl, H)) (pO (aNil t0) H fun t26 H =>
  pFa 0 t26 H fun t27 H =>
  ldK (.some 6) H t27 fun t28 H =>
  pC call 104 [t20, t28] H fun t29 H =>
  pExt t29 0 H fun t30 H =>
  pExt t29 1 H fun t31 H =>
  pNew [(.int .i64 (.ofNat 0)), (.int .i64 (.ofNat 0)), (.int .i64 (.ofNat 0)), (.int .i64 (.ofNat 0)), (.int .i64 (.ofNat 0))] H fun t8 H =>
  stK 5 H t8 t30 fun _ H =>
  pO (aUn .not t31) H fun t33 H =>
  onBool t33 (some (.nilsl, H)) (pFa 0 t8 H fun t34 H =>
  ldK .none H t34 fun t35 H =>
  pNeq t35 (.int .i64 (.ofNat 38)) H fun t36 H =>
  guardA t36 true (pFa 0 t8 H fun t38 H =>
  ldK .none H t38 fun t39 H =>
  pNeq t39 (.int .i64 (.ofNat 39)) H fun t40 H =>
  S156_4 call t0 t1 t2 t20 t8 t36 t40 H) (S156_4 call t0 t1 t2 t20 t8 t36 U H)))
noncomputable def S156 : Ff := ⟨fun call l H => argA3 (fun t0 t1 t2 => S156_5 call t0 t1 t2 H) l⟩
/- (*gantline/frame.Stack).top -/
noncomputable def S165_0 (_ : CallFn) (t0 : AV) (H : AHeap) : R :=
  pO (aNil t0) H fun t4 H =>
  pFa 0 t4 H fun t5 H =>
  ldK .none H t5 fun t6 H =>
  pO (aLen .sl H t6) H fun t7 H =>
  pEql t7 (.int .i64 (.ofNat 0)) H fun t8 H =>
  onBool t8 (some (.nilp, H)) (pO (aNil t0) H fun t10 H =>
  pFa 0 t10 H fun t11 H =>
  ldK .none H t11 fun t12 H =>
  pO (aNil t0) H fun t14 H =>
  pFa 0 t14 H fun t15 H =>
  ldK .none H t15 fun t16 H =>
  pO (aLen .sl H t16) H fun t17 H =>
  pSub t17 (.int .i64 (.ofNat 1)) H fun t18 H =>
  pIa 3 t12 t18 H fun t19 H =>
  some (t19, H))
noncomputable def S165 : Ff := ⟨fun call l H => argA1 (fun t0 => S165_0 call t0 H) l⟩
/- gantline/frame.clone -/
noncomputable def S166_0 (call : CallFn) (t0 : AV) (H : AHeap) : R :=
  pBox t0 H fun t1 H =>
  pNew [(.int .i64 (.ofNat 0)), (.int .i64 (.ofNat 0)), .nilsl] H fun t2 H =>
  pFa 2 t1 H fun t3 H =>
  ldK .none H t3 fun t4 H =>
  pC call 93 [t4] H fun t5 H =>
  pFa 2 t1 H fun t6 H =>
  stK 1 H t6 t5 fun _ H =>
  ldK (.some 3) H t1 fun t7 H =>
  stK 3 H t2 t7 fun _ H =>
  ob (allM (fun o => o) [aLoad (.some 3) H t2]) fun vs => some (resV vs, H)
noncomputable def S166 : Ff := ⟨fun call l H => argA1 (fun t0 => S166_0 call t0 H) l⟩
/- (*gantline/vm.doing).plain -/
noncomputable def S167_0 (call : CallFn) (t0 : AV) (H : AHeap) : R :=
  pO (aNil t0) H fun t7 H =>
  pFa 3 t7 H fun t8 H =>
  ldK (.some 5) H t8 fun t9 H =>
  pO (aNil t0) H fun t11 H =>
  pFa 2 t11 H fun t12 H =>
  ldK .none H t12 fun t13 H =>
  pNew [(.int .i64 (.ofNat 0)), (.int .i64 (.ofNat 0)), (.int .i64 (.ofNat 0)), (.int .i64 (.ofNat 0)), (.int .i64 (.ofNat 0))] H fun t2 H =>
  stK 5 H t2 t9 fun _ H =>
  andR (andB (ckV (aLoad .none H t12) t13) true) (
  pFa 0 t2 H fun t14 H =>
  ldK .none H t14 fun t15 H =>
  pEql t15 (.int .i64 (.ofNat 0)) H fun t40 H =>
  onBool t40 (pO (aNil t0) H fun t43 H =>
  pFa 0 t43 H fun t44 H =>
  ldK .none H t44 fun t45 H =>
  pO (aNil t45) H fun t46 H =>
  pFa 0 t46 H fun t47 H =>
  pFa 2 t47 H fun t48 H =>
  ldK .none H t48 fun t49 H =>
  pFa 2 t2 H fun t50 H =>
  ldK .none H t50 fun t51 H =>
  pIa 1 t49 t51 H fun t52 H =>
  ldK .none H t52 fun t53 H =>
  pC call 253 [t0, t53] H fun _ H =>
  some (.tup [], H)) (pEql t15 (.int .i64 (.ofNat 1)) H fun t56 H =>
  onBool t56 (pFa 2 t2 H fun t59 H =>
  ldK .none H t59 fun t60 H =>
  pC call 171 [t13, t60] H fun t61 H =>
  pC call 253 [t0, t61] H fun _ H =>
  some (.tup [], H)) (pEql t15 (.int .i64 (.ofNat 2)) H fun t64 H =>
  onBool t64 (pC call 253 [t0, (.int .i64 (.ofNat 0))] H fun _ H =>
  some (.tup [], H)) (pEql t15 (.int .i64 (.ofNat 17)) H fun t68 H =>
  onBool t68 (pFa 2 t2 H fun t71 H =>
  ldK .none H t71 fun t72 H =>
  pC call 171 [t13, t72] H fun t73 H =>
  pEql t73 (.int .i64 (.ofNat 0)) H fun t74 H =>
  pC call 254 [t74] H fun t75 H =>
  pC call 253 [t0, t75] H fun _ H =>
  some (.tup [], H)) (pEql t15 (.int .i64 (.ofNat 18)) H fun t78 H =>
  onBool t78 (pFa 1 t2 H fun t80 H =>
  ldK .none H t80 fun t81 H =>
  pC call 255 [t13, t81] H fun _ H =>
  some (.tup [], H)) (pEql t15 (.int .i64 (.ofNat 19)) H fun t84 H =>
  onBool t84 (pC call 172 [t0] H fun _ H =>
  pFa 1 t2 H fun t88 H =>
  ldK .none H t88 fun t89 H =>
  pC call 171 [t13, t89] H fun t90 H =>
  pNeq t90 (.int .i64 (.ofNat 0)) H fun t91 H =>
  onBool t91 (pFa 2 t2 H fun t93 H =>
  ldK .none H t93 fun t94 H =>
  pC call 255 [t13, t94] H fun _ H =>
  some (.tup [], H)) (some (.tup [], H))) (pEql t15 (.int .i64 (.ofNat 43)) H fun t97 H =>
  onBool t97 (pC call 172 [t0] H fun _ H =>
  some (.tup [], H)) (pFa 0 t2 H fun t17 H =>
  ldK .none H t17 fun t18 H =>
  pFa 2 t2 H fun t20 H =>
  ldK .none H t20 fun t21 H =>
  pFa 3 t2 H fun t24 H =>
  ldK .none H t24 fun t25 H =>
  pC call 171 [t13, t21] H fun t22 H =>
  andR (andB (ckV (aLoad .none H t17) t18) (andB (ckV (aLoad .none H t24) t25) true)) (
  pC call 171 [t13, t25] H fun t26 H =>
  andR (andB (ckV (aLoad .none H t17) t18) true) (
  pC call 256 [t18, t22, t26] H fun t27 H =>
  pExt t27 0 H fun t28 H =>
  pExt t27 1 H fun t29 H =>
  onBool t29 (pC call 253 [t0, t28] H fun _ H =>
  some (.tup [], H)) (pO (aNil t0) H fun t35 H =>
  pFa 0 t35 H fun t36 H =>
  ldK .none H t36 fun t37 H =>
  pC call 173 [t37, (.int .i64 (.ofNat 3))] H fun _ H =>
  some (.tup [], H))))))))))))
noncomputable def S167 : Ff := ⟨fun call l H => argA1 (fun t0 => S167_0 call t0 H) l⟩
/- (*gantline/vm.doing).calls -/
noncomputable def S168_0 (call : CallFn) (t0 : AV) (H : AHeap) : R :=
  pO (aNil t0) H fun t11 H =>
  pFa 3 t11 H fun t12 H =>
  ldK (.some 5) H t12 fun t13 H =>
  pNew [(.int .i64 (.ofNat 0)), (.int .i64 (.ofNat 0)), (.int .i64 (.ofNat 0)), (.int .i64 (.ofNat 0)), (.int .i64 (.ofNat 0))] H fun t2 H =>
  stK 5 H t2 t13 fun _ H =>
  pFa 0 t2 H fun t14 H =>
  ldK .none H t14 fun t15 H =>
  pEql t15 (.int .i64 (.ofNat 20)) H fun t17 H =>
  onBool t17 (pFa 2 t2 H fun t19 H =>
  ldK .none H t19 fun t20 H =>
  pFa 3 t2 H fun t22 H =>
  ldK .none H t22 fun t23 H =>
  pO (aNil t0) H fun t25 H =>
  pFa 0 t25 H fun t26 H =>
  ldK .none H t26 fun t27 H =>
  pO (aNil t27) H fun t28 H =>
  pFa 0 t28 H fun t29 H =>
  pFa 4 t29 H fun t30 H =>
  ldK .none H t30 fun t31 H =>
  pFa 2 t2 H fun t32 H =>
  ldK .none H t32 fun t33 H =>
  pIa 7 t31 t33 H fun t34 H =>
  pFa 0 t34 H fun t35 H =>
  ldK .none H t35 fun t36 H =>
  pC call 258 [t0, t23, t36] H fun t37 H =>
  andR (andB (ckV (aLoad .none H t19) t20) true) (
  pC call 257 [t0, t20, t37] H fun _ H =>
  some (.tup [], H))) (pEql t15 (.int .i64 (.ofNat 21)) H fun t40 H =>
  onBool t40 (pO (aNil t0) H fun t44 H =>
  pFa 2 t44 H fun t45 H =>
  ldK .none H t45 fun t46 H =>
  pFa 2 t2 H fun t47 H =>
  ldK .none H t47 fun t48 H =>
  pFa 3 t2 H fun t50 H =>
  ldK .none H t50 fun t51 H =>
  pFa 4 t2 H fun t52 H =>
  ldK .none H t52 fun t53 H =>
  pC call 171 [t46, t48] H fun t49 H =>
  andR (andB (ckV (aLoad .none H t50) t51) (andB (ckV (aLoad .none H t52) t53) true)) (
  pC call 259 [t0, t49, t51, t53, (.fn 260 [t0] [])] H fun t56 H =>
  pExt t56 0 H fun t57 H =>
  pExt t56 1 H fun t58 H =>
  pExt t56 2 H fun t59 H =>
  onBool t59 (pC call 257 [t0, t57, t58] H fun _ H =>
  some (.tup [], H)) (some (.tup [], H)))) (pEql t15 (.int .i64 (.ofNat 22)) H fun t66 H =>
  onBool t66 (pC call 261 [t0] H fun _ H =>
  some (.tup [], H)) (pEql t15 (.int .i64 (.ofNat 23)) H fun t70 H =>
  onBool t70 (pFa 1 t2 H fun t72 H =>
  ldK .none H t72 fun t73 H =>
  pFa 2 t2 H fun t75 H =>
  ldK .none H t75 fun t76 H =>
  pO (aNil t0) H fun t78 H =>
  pFa 0 t78 H fun t79 H =>
  ldK .none H t79 fun t80 H =>
  pO (aNil t80) H fun t81 H =>
  pFa 0 t81 H fun t82 H =>
  pFa 4 t82 H fun t83 H =>
  ldK .none H t83 fun t84 H =>
  pFa 1 t2 H fun t85 H =>
  ldK .none H t85 fun t86 H =>
  pIa 7 t84 t86 H fun t87 H =>
  pFa 0 t87 H fun t88 H =>
  ldK .none H t88 fun t89 H =>
  pC call 258 [t0, t76, t89] H fun t90 H =>
  andR (andB (ckV (aLoad .none H t72) t73) true) (
  pC call 262 [t0, t73, t90] H fun _ H =>
  some (.tup [], H))) (pEql t15 (.int .i64 (.ofNat 24)) H fun t93 H =>
  onBool t93 (pO (aNil t0) H fun t97 H =>
  pFa 2 t97 H fun t98 H =>
  ldK .none H t98 fun t99 H =>
  pFa 1 t2 H fun t100 H =>
  ldK .none H t100 fun t101 H =>
  pFa 2 t2 H fun t103 H =>
  ldK .none H t103 fun t104 H =>
  pFa 3 t2 H fun t105 H =>
  ldK .none H t105 fun t106 H =>
  pC call 171 [t99, t101] H fun t102 H =>
  andR (andB (ckV (aLoad .none H t103) t104) (andB (ckV (aLoad .none H t105) t106) true)) (
  pC call 259 [t0, t102, t104, t106, (.fn 263 [] [])] H fun t108 H =>
  pExt t108 0 H fun t109 H =>
  pExt t108 1 H fun t110 H =>
  pExt t108 2 H fun t111 H =>
  onBool t111 (pC call 262 [t0, t109, t110] H fun _ H =>
  some (.tup [], H)) (some (.tup [], H)))) (some (.tup [], H))))))
noncomputable def S168 : Ff := ⟨fun call l H => argA1 (fun t0 => S168_0 call t0 H) l⟩
/- (*gantline/frame.Stack).Get -/
noncomputable def S171_0 (_ : CallFn) (t1 t5 t14 t21 : AV) (H : AHeap) : R :=
  pPick t14 (.bool true) t21 H fun t22 H =>
  onBool t22 (some ((.int .i64 (.ofNat 0)), H)) (pO (aNil t5) H fun t24 H =>
  pFa 2 t24 H fun t25 H =>
  ldK .none H t25 fun t26 H =>
  pIa 1 t26 t1 H fun t28 H =>
  ldK .none H t28 fun t29 H =>
  some (t29, H))
noncomputable def S171_1 (call : CallFn) (t1 t5 t10 t12 : AV) (H : AHeap) : R :=
  pPick t10 (.bool true) t12 H fun t13 H =>
  guardA t13 false (pO (aNil t5) H fun t17 H =>
  pFa 2 t17 H fun t18 H =>
  ldK .none H t18 fun t19 H =>
  pO (aLen .sl H t19) H fun t20 H =>
  pGeq t1 t20 H fun t21 H =>
  S171_0 call t1 t5 t13 t21 H) (S171_0 call t1 t5 t13 U H)
noncomputable def S171_2 (call : CallFn) (t0 t1 : AV) (H : AHeap) : R :=
  pC call 165 [t0] H fun t7 H =>
  pO (aEq false .ptr t7 .nilp) H fun t9 H =>
  guardA t9 false (pLss t1 (.int .i64 (.ofNat 0)) H fun t12 H =>
  S171_1 call t1 t7 t9 t12 H) (S171_1 call t1 t7 t9 U H)
noncomputable def S171 : Ff := ⟨fun call l H => argA2 (fun t0 t1 => S171_2 call t0 t1 H) l⟩
/- (*gantline/vm.doing).on -/
noncomputable def S172_0 (call : CallFn) (t0 : AV) (H : AHeap) : R :=
  pO (aNil t0) H fun t3 H =>
  pFa 2 t3 H fun t4 H =>
  ldK .none H t4 fun t5 H =>
  pO (aNil t0) H fun t7 H =>
  pFa 15 t7 H fun t8 H =>
  ldK .none H t8 fun t9 H =>
  pAdd t9 (.int .i64 (.ofNat 1)) H fun t10 H =>
  pC call 255 [t5, t10] H fun _ H =>
  some (.tup [], H)
noncomputable def S172 : Ff := ⟨fun call l H => argA1 (fun t0 => S172_0 call t0 H) l⟩
/- gantline/verify.module$2 -/
noncomputable def S176_0 (call : CallFn) (t0 : AV) (H : AHeap) : R :=
  pC call 177 [t0] H fun t4 H =>
  pNeq t4 t0 H fun t6 H =>
  some (t6, H)
noncomputable def S176 : Ff := ⟨fun call l H => argA1 (fun t0 => S176_0 call t0 H) l⟩
/- gantline/bits.Wrap -/
noncomputable def S177_0 (_ : CallFn) (t0 : AV) (H : AHeap) : R :=
  pO (aBin .shl t0 (.int .u64 (.ofNat 1))) H fun t4 H =>
  pO (aBin .shr t4 (.int .u64 (.ofNat 1))) H fun t5 H =>
  some (t5, H)
noncomputable def S177 : Ff := ⟨fun call l H => argA1 (fun t0 => S177_0 call t0 H) l⟩
/- slices.ContainsFunc[[]gantline/head.Shape,gantline/head.Shape] -/
noncomputable def S178_0 (call : CallFn) (t0 t1 : AV) (H : AHeap) : R :=
  pC call 281 [t0, t1] H fun t7 H =>
  pGeq t7 (.int .i64 (.ofNat 0)) H fun t8 H =>
  some (t8, H)
noncomputable def S178 : Ff := ⟨fun call l H => argA2 (fun t0 t1 => S178_0 call t0 t1 H) l⟩
/- slices.ContainsFunc[[]int64,int64] -/
noncomputable def S179_0 (call : CallFn) (t0 t1 : AV) (H : AHeap) : R :=
  pC call 282 [t0, t1] H fun t7 H =>
  pGeq t7 (.int .i64 (.ofNat 0)) H fun t8 H =>
  some (t8, H)
noncomputable def S179 : Ff := ⟨fun call l H => argA2 (fun t0 t1 => S179_0 call t0 t1 H) l⟩
/- slices.Index[[]int,int] -/
noncomputable def S180_0 (_ : CallFn) (n : Nat) : AV → AV → AV → AV → AHeap → R :=
  Nat.rec (motive := fun _ => AV → AV → AV → AV → AHeap → R) (fun _ _ _ _ _ => none) (fun _ q0 t0 t1 t7 t8 H => pLss t8 t7 H fun t9 H =>
  onBool t9 (pIa 1 t0 t8 H fun t14 H =>
  ldK .none H t14 fun t15 H =>
  pEql t1 t15 H fun t16 H =>
  onBool t16 (some (t8, H)) (pAdd t8 (.int .i64 (.ofNat 1)) H fun t18 H =>
  q0 t0 t1 t7 t18 H)) (some ((.int .i64 (.negSucc 0)), H))) n
noncomputable def S180_1 (call : CallFn) (t0 t1 : AV) (H : AHeap) : R :=
  pO (aLen .sl H t0) H fun t7 H =>
  S180_0 call 1000000 t0 t1 t7 (.int .i64 (.ofNat 0)) H
noncomputable def S180 : Ff := ⟨fun call l H => argA2 (fun t0 t1 => S180_1 call t0 t1 H) l⟩
/- (*gantline/verify.checker).slots -/
noncomputable def S181_0 (_ : CallFn) (t31 t39 : AV) (H : AHeap) : R :=
  pPick t31 t39 (.bool false) H fun t40 H =>
  some (t40, H)
noncomputable def S181_1 (call : CallFn) (t1 t31 t32 t33 t34 t38 : AV) (H : AHeap) : R :=
  andR (andB (gdB t31 true (ckV (aLoad .none H t1) t32)) (andB (gdB t31 true (ckV (aLoad .none H t33) t34)) true)) (
  guardA t31 true (pC call 285 [t32, t34, t38] H fun t39 H =>
  S181_0 call t31 t39 H) (S181_0 call t31 U H))
noncomputable def S181_2 (call : CallFn) (t1 t31 t32 t33 t34 t35 t37 : AV) (H : AHeap) : R :=
  guardA t31 true (pC call 286 [t35, t37] H fun t38 H =>
  S181_1 call t1 t31 t32 t33 t34 t38 H) (S181_1 call t1 t31 t32 t33 t34 U H)
noncomputable def S181_3 (call : CallFn) (t1 t31 t32 t33 t34 t35 t36 : AV) (H : AHeap) : R :=
  guardA t31 true (ldK .none H t36 fun t37 H =>
  S181_2 call t1 t31 t32 t33 t34 t35 t37 H) (S181_2 call t1 t31 t32 t33 t34 t35 U H)
noncomputable def S181_4 (call : CallFn) (t1 t3 t31 t32 t33 t34 t35 : AV) (H : AHeap) : R :=
  guardA t31 true (pFa 2 t3 H fun t36 H =>
  S181_3 call t1 t31 t32 t33 t34 t35 t36 H) (S181_3 call t1 t31 t32 t33 t34 t35 U H)
noncomputable def S181_5 (call : CallFn) (t1 t3 t31 t32 t33 t34 : AV) (H : AHeap) : R :=
  guardA t31 true (ldK .none H t1 fun t35 H =>
  S181_4 call t1 t3 t31 t32 t33 t34 t35 H) (S181_4 call t1 t3 t31 t32 t33 t34 U H)
noncomputable def S181_6 (call : CallFn) (t1 t3 t31 t32 t33 : AV) (H : AHeap) : R :=
  guardA t31 true (ldK .none H t33 fun t34 H =>
  S181_5 call t1 t3 t31 t32 t33 t34 H) (S181_5 call t1 t3 t31 t32 t33 U H)
noncomputable def S181_7 (call : CallFn) (t1 t3 t31 t32 : AV) (H : AHeap) : R :=
  guardA t31 true (pFa 3 t3 H fun t33 H =>
  S181_6 call t1 t3 t31 t32 t33 H) (S181_6 call t1 t3 t31 t32 U H)
noncomputable def S181_8 (_ : CallFn) (t54 t60 : AV) (H : AHeap) : R :=
  pPick t54 t60 (.bool false) H fun t61 H =>
  some (t61, H)
noncomputable def S181_9 (call : CallFn) (t1 t3 t48 t52 : AV) (H : AHeap) : R :=
  pPick t48 t52 (.bool false) H fun t53 H =>
  guardA t53 true (ldK .none H t1 fun t55 H =>
  pFa 3 t3 H fun t56 H =>
  ldK .none H t56 fun t57 H =>
  pFa 4 t3 H fun t58 H =>
  ldK .none H t58 fun t59 H =>
  pC call 285 [t55, t57, t59] H fun t60 H =>
  S181_8 call t53 t60 H) (S181_8 call t53 U H)
noncomputable def S181_10 (_ : CallFn) (t87 t93 : AV) (H : AHeap) : R :=
  pPick t87 t93 (.bool false) H fun t94 H =>
  some (t94, H)
noncomputable def S181_11 (_ : CallFn) (t109 t115 : AV) (H : AHeap) : R :=
  pPick t109 t115 (.bool false) H fun t116 H =>
  some (t116, H)
noncomputable def S181_12 (_ : CallFn) (t130 t134 : AV) (H : AHeap) : R :=
  pPick t130 t134 (.bool false) H fun t135 H =>
  some (t135, H)
noncomputable def S181_13 (call : CallFn) (t3 t4 t124 t128 : AV) (H : AHeap) : R :=
  pPick t124 t128 (.bool false) H fun t129 H =>
  guardA t129 true (ldK .none H t4 fun t131 H =>
  pFa 3 t3 H fun t132 H =>
  ldK .none H t132 fun t133 H =>
  pV call t131 [t133] H fun t134 H =>
  S181_12 call t129 t134 H) (S181_12 call t129 U H)
noncomputable def S181_14 (call : CallFn) (t1 t3 t4 t5 t20 t22 : AV) (H : AHeap) : R :=
  pPick t20 (.bool true) t22 H fun t23 H =>
  onBool t23 (some ((.bool false), H)) (pEql t5 (.int .i64 (.ofNat 20)) H fun t26 H =>
  onBool t26 (ldK .none H t4 fun t27 H =>
  pFa 1 t3 H fun t28 H =>
  ldK .none H t28 fun t29 H =>
  pV call t27 [t29] H fun t30 H =>
  guardA t30 true (ldK .none H t1 fun t32 H =>
  S181_7 call t1 t3 t30 t32 H) (S181_7 call t1 t3 t30 U H)) (pEql t5 (.int .i64 (.ofNat 21)) H fun t43 H =>
  onBool t43 (ldK .none H t4 fun t44 H =>
  pFa 1 t3 H fun t45 H =>
  ldK .none H t45 fun t46 H =>
  pV call t44 [t46] H fun t47 H =>
  guardA t47 true (ldK .none H t1 fun t49 H =>
  pFa 2 t3 H fun t50 H =>
  ldK .none H t50 fun t51 H =>
  pC call 284 [t49, t51] H fun t52 H =>
  S181_9 call t1 t3 t47 t52 H) (S181_9 call t1 t3 t47 U H)) (pEql t5 (.int .i64 (.ofNat 22)) H fun t64 H =>
  onBool t64 (ldK .none H t4 fun t65 H =>
  pFa 1 t3 H fun t66 H =>
  ldK .none H t66 fun t67 H =>
  pV call t65 [t67] H fun t68 H =>
  some (t68, H)) (pEql t5 (.int .i64 (.ofNat 23)) H fun t71 H =>
  onBool t71 (ldK .none H t1 fun t72 H =>
  pFa 2 t3 H fun t73 H =>
  ldK .none H t73 fun t74 H =>
  ldK .none H t1 fun t75 H =>
  pFa 1 t3 H fun t76 H =>
  ldK .none H t76 fun t77 H =>
  pC call 286 [t75, t77] H fun t78 H =>
  andR (andB (ckV (aLoad .none H t1) t72) (andB (ckV (aLoad .none H t73) t74) true)) (
  pC call 285 [t72, t74, t78] H fun t79 H =>
  some (t79, H))) (pEql t5 (.int .i64 (.ofNat 24)) H fun t82 H =>
  onBool t82 (ldK .none H t1 fun t83 H =>
  pFa 1 t3 H fun t84 H =>
  ldK .none H t84 fun t85 H =>
  pC call 284 [t83, t85] H fun t86 H =>
  guardA t86 true (ldK .none H t1 fun t88 H =>
  pFa 2 t3 H fun t89 H =>
  ldK .none H t89 fun t90 H =>
  pFa 3 t3 H fun t91 H =>
  ldK .none H t91 fun t92 H =>
  pC call 285 [t88, t90, t92] H fun t93 H =>
  S181_10 call t86 t93 H) (S181_10 call t86 U H)) (pEql t5 (.int .i64 (.ofNat 36)) H fun t97 H =>
  onBool t97 (ldK .none H t1 fun t99 H =>
  pFa 2 t3 H fun t100 H =>
  ldK .none H t100 fun t101 H =>
  pC call 287 [t99, t101] H fun t102 H =>
  pExt t102 0 H fun t103 H =>
  pExt t102 1 H fun _ H =>
  pNew [(.int .i64 (.ofNat 0)), (.int .i64 (.ofNat 0)), (.int .i64 (.ofNat 0)), (.int .i64 (.ofNat 0)), .nilsl, .nilsl, .nilsl] H fun t6 H =>
  stK 7 H t6 t103 fun _ H =>
  ldK .none H t1 fun t105 H =>
  pFa 1 t3 H fun t106 H =>
  ldK .none H t106 fun t107 H =>
  pC call 284 [t105, t107] H fun t108 H =>
  guardA t108 true (ldK .none H t1 fun t110 H =>
  pFa 3 t3 H fun t111 H =>
  ldK .none H t111 fun t112 H =>
  pFa 1 t6 H fun t113 H =>
  ldK .none H t113 fun t114 H =>
  pC call 285 [t110, t112, t114] H fun t115 H =>
  S181_11 call t108 t115 H) (S181_11 call t108 U H)) (pEql t5 (.int .i64 (.ofNat 39)) H fun t119 H =>
  onBool t119 (ldK .none H t4 fun t120 H =>
  pFa 1 t3 H fun t121 H =>
  ldK .none H t121 fun t122 H =>
  pV call t120 [t122] H fun t123 H =>
  guardA t123 true (ldK .none H t1 fun t125 H =>
  pFa 2 t3 H fun t126 H =>
  ldK .none H t126 fun t127 H =>
  pC call 284 [t125, t127] H fun t128 H =>
  S181_13 call t3 t4 t123 t128 H) (S181_13 call t3 t4 t123 U H)) (pEql t5 (.int .i64 (.ofNat 41)) H fun t138 H =>
  onBool t138 (ldK .none H t1 fun t140 H =>
  pC call 288 [t140] H fun t141 H =>
  pExt t141 0 H fun t142 H =>
  pExt t141 1 H fun _ H =>
  pC call 289 [t142, (.fn 290 [] [t1, t4])] H fun t146 H =>
  pO (aUn .not t146) H fun t147 H =>
  some (t147, H)) (ldK .none H t1 fun t148 H =>
  pO (aNil t148) H fun t149 H =>
  pFa 0 t149 H fun t150 H =>
  ldK (.some 6) H t150 fun t151 H =>
  ldK (.some 5) H t3 fun t152 H =>
  ldK (.some 5) H t3 fun t154 H =>
  pC call 223 [t151, t152] H fun t153 H =>
  andR (andB (ckV (aLoad (.some 5) H t3) t154) true) (
  pC call 224 [t154] H fun t155 H =>
  pW (aApp 1 8 H t153 t155) fun t156 H =>
  pC call 291 [t156, (.fn 292 [] [t1])] H fun t158 H =>
  pO (aUn .not t158) H fun t159 H =>
  some (t159, H)))))))))))
noncomputable def S181_15 (call : CallFn) (t0 : AV) (H : AHeap) : R :=
  pBox t0 H fun t1 H =>
  ldK .none H t1 fun t10 H =>
  pO (aNil t10) H fun t11 H =>
  pFa 17 t11 H fun t12 H =>
  ldK (.some 5) H t12 fun t13 H =>
  pNew [(.int .i64 (.ofNat 0)), (.int .i64 (.ofNat 0)), (.int .i64 (.ofNat 0)), (.int .i64 (.ofNat 0)), (.int .i64 (.ofNat 0))] H fun t3 H =>
  stK 5 H t3 t13 fun _ H =>
  pNew [.nilfn] H fun t4 H =>
  stK 1 H t4 (.fn 283 [] [t1]) fun _ H =>
  pFa 0 t3 H fun t15 H =>
  ldK .none H t15 fun t16 H =>
  pLss t16 (.int .i64 (.ofNat 0)) H fun t19 H =>
  guardA t19 false (pGtr t16 (.int .i64 (.ofNat 44)) H fun t22 H =>
  S181_14 call t1 t3 t4 t16 t19 t22 H) (S181_14 call t1 t3 t4 t16 t19 U H)
noncomputable def S181 : Ff := ⟨fun call l H => argA1 (fun t0 => S181_15 call t0 H) l⟩
/- (*gantline/verify.checker).there -/
noncomputable def S182_0 (_ : CallFn) (t21 t30 : AV) (H : AHeap) : R :=
  pPick t21 t30 (.bool false) H fun t31 H =>
  some (t31, H)
noncomputable def S182_1 (call : CallFn) (t21 t23 t29 : AV) (H : AHeap) : R :=
  guardA t21 true (pLss t23 t29 H fun t30 H =>
  S182_0 call t21 t30 H) (S182_0 call t21 U H)
noncomputable def S182_2 (call : CallFn) (t21 t23 t28 : AV) (H : AHeap) : R :=
  guardA t21 true (pO (aLen .sl H t28) H fun t29 H =>
  S182_1 call t21 t23 t29 H) (S182_1 call t21 t23 U H)
noncomputable def S182_3 (call : CallFn) (t21 t23 t27 : AV) (H : AHeap) : R :=
  guardA t21 true (ldK .none H t27 fun t28 H =>
  S182_2 call t21 t23 t28 H) (S182_2 call t21 t23 U H)
noncomputable def S182_4 (call : CallFn) (t21 t23 t26 : AV) (H : AHeap) : R :=
  guardA t21 true (pFa 2 t26 H fun t27 H =>
  S182_3 call t21 t23 t27 H) (S182_3 call t21 t23 U H)
noncomputable def S182_5 (call : CallFn) (t21 t23 t25 : AV) (H : AHeap) : R :=
  guardA t21 true (pFa 0 t25 H fun t26 H =>
  S182_4 call t21 t23 t26 H) (S182_4 call t21 t23 U H)
noncomputable def S182_6 (call : CallFn) (t21 t23 t24 : AV) (H : AHeap) : R :=
  guardA t21 true (pO (aNil t24) H fun t25 H =>
  S182_5 call t21 t23 t25 H) (S182_5 call t21 t23 U H)
noncomputable def S182_7 (call : CallFn) (t0 t21 t23 : AV) (H : AHeap) : R :=
  guardA t21 true (S182_6 call t21 t23 t0 H) (S182_6 call t21 t23 U H)
noncomputable def S182_8 (call : CallFn) (t0 t21 t22 : AV) (H : AHeap) : R :=
  guardA t21 true (ldK .none H t22 fun t23 H =>
  S182_7 call t0 t21 t23 H) (S182_7 call t0 t21 U H)
noncomputable def S182_9 (_ : CallFn) (t55 t64 : AV) (H : AHeap) : R :=
  pPick t55 t64 (.bool false) H fun t65 H =>
  some (t65, H)
noncomputable def S182_10 (call : CallFn) (t55 t57 t63 : AV) (H : AHeap) : R :=
  guardA t55 true (pLss t57 t63 H fun t64 H =>
  S182_9 call t55 t64 H) (S182_9 call t55 U H)
noncomputable def S182_11 (call : CallFn) (t55 t57 t62 : AV) (H : AHeap) : R :=
  guardA t55 true (pO (aLen .sl H t62) H fun t63 H =>
  S182_10 call t55 t57 t63 H) (S182_10 call t55 t57 U H)
noncomputable def S182_12 (call : CallFn) (t55 t57 t61 : AV) (H : AHeap) : R :=
  guardA t55 true (ldK .none H t61 fun t62 H =>
  S182_11 call t55 t57 t62 H) (S182_11 call t55 t57 U H)
noncomputable def S182_13 (call : CallFn) (t55 t57 t60 : AV) (H : AHeap) : R :=
  guardA t55 true (pFa 1 t60 H fun t61 H =>
  S182_12 call t55 t57 t61 H) (S182_12 call t55 t57 U H)
noncomputable def S182_14 (call : CallFn) (t55 t57 t59 : AV) (H : AHeap) : R :=
  guardA t55 true (pFa 0 t59 H fun t60 H =>
  S182_13 call t55 t57 t60 H) (S182_13 call t55 t57 U H)
noncomputable def S182_15 (call : CallFn) (t55 t57 t58 : AV) (H : AHeap) : R :=
  guardA t55 true (pO (aNil t58) H fun t59 H =>
  S182_14 call t55 t57 t59 H) (S182_14 call t55 t57 U H)
noncomputable def S182_16 (call : CallFn) (t0 t55 t57 : AV) (H : AHeap) : R :=
  guardA t55 true (S182_15 call t55 t57 t0 H) (S182_15 call t55 t57 U H)
noncomputable def S182_17 (call : CallFn) (t0 t55 t56 : AV) (H : AHeap) : R :=
  guardA t55 true (ldK .none H t56 fun t57 H =>
  S182_16 call t0 t55 t57 H) (S182_16 call t0 t55 U H)
noncomputable def S182_18 (_ : CallFn) (t71 t80 : AV) (H : AHeap) : R :=
  pPick t71 t80 (.bool false) H fun t81 H =>
  some (t81, H)
noncomputable def S182_19 (call : CallFn) (t71 t73 t79 : AV) (H : AHeap) : R :=
  guardA t71 true (pLss t73 t79 H fun t80 H =>
  S182_18 call t71 t80 H) (S182_18 call t71 U H)
noncomputable def S182_20 (call : CallFn) (t71 t73 t78 : AV) (H : AHeap) : R :=
  guardA t71 true (pO (aLen .sl H t78) H fun t79 H =>
  S182_19 call t71 t73 t79 H) (S182_19 call t71 t73 U H)
noncomputable def S182_21 (call : CallFn) (t71 t73 t77 : AV) (H : AHeap) : R :=
  guardA t71 true (ldK .none H t77 fun t78 H =>
  S182_20 call t71 t73 t78 H) (S182_20 call t71 t73 U H)
noncomputable def S182_22 (call : CallFn) (t71 t73 t76 : AV) (H : AHeap) : R :=
  guardA t71 true (pFa 1 t76 H fun t77 H =>
  S182_21 call t71 t73 t77 H) (S182_21 call t71 t73 U H)
noncomputable def S182_23 (call : CallFn) (t71 t73 t75 : AV) (H : AHeap) : R :=
  guardA t71 true (pFa 0 t75 H fun t76 H =>
  S182_22 call t71 t73 t76 H) (S182_22 call t71 t73 U H)
noncomputable def S182_24 (call : CallFn) (t71 t73 t74 : AV) (H : AHeap) : R :=
  guardA t71 true (pO (aNil t74) H fun t75 H =>
  S182_23 call t71 t73 t75 H) (S182_23 call t71 t73 U H)
noncomputable def S182_25 (call : CallFn) (t0 t71 t73 : AV) (H : AHeap) : R :=
  guardA t71 true (S182_24 call t71 t73 t0 H) (S182_24 call t71 t73 U H)
noncomputable def S182_26 (call : CallFn) (t0 t71 t72 : AV) (H : AHeap) : R :=
  guardA t71 true (ldK .none H t72 fun t73 H =>
  S182_25 call t0 t71 t73 H) (S182_25 call t0 t71 U H)
noncomputable def S182_27 (_ : CallFn) (t92 t95 : AV) (H : AHeap) : R :=
  pPick t92 t95 (.bool false) H fun t96 H =>
  some (t96, H)
noncomputable def S182_28 (_ : CallFn) (t112 t115 : AV) (H : AHeap) : R :=
  pPick t112 t115 (.bool false) H fun t116 H =>
  some (t116, H)
noncomputable def S182_29 (call : CallFn) (t6 t107 t110 : AV) (H : AHeap) : R :=
  pPick t107 t110 (.bool false) H fun t111 H =>
  guardA t111 true (pFa 3 t6 H fun t113 H =>
  ldK .none H t113 fun t114 H =>
  pEql t114 (.int .i64 (.ofNat 0)) H fun t115 H =>
  S182_28 call t111 t115 H) (S182_28 call t111 U H)
noncomputable def S182_30 (_ : CallFn) (t142 t145 : AV) (H : AHeap) : R :=
  pPick t142 t145 (.bool false) H fun t146 H =>
  some (t146, H)
noncomputable def S182_31 (call : CallFn) (t0 : AV) (H : AHeap) : R :=
  pO (aNil t0) H fun t11 H =>
  pFa 17 t11 H fun t12 H =>
  ldK (.some 5) H t12 fun t13 H =>
  pNew [(.int .i64 (.ofNat 0)), (.int .i64 (.ofNat 0)), (.int .i64 (.ofNat 0)), (.int .i64 (.ofNat 0)), (.int .i64 (.ofNat 0))] H fun t3 H =>
  stK 5 H t3 t13 fun _ H =>
  pFa 0 t3 H fun t14 H =>
  ldK .none H t14 fun t15 H =>
  pEql t15 (.int .i64 (.ofNat 0)) H fun t17 H =>
  onBool t17 (pFa 2 t3 H fun t18 H =>
  ldK .none H t18 fun t19 H =>
  pGeq t19 (.int .i64 (.ofNat 0)) H fun t20 H =>
  guardA t20 true (pFa 2 t3 H fun t22 H =>
  S182_8 call t0 t20 t22 H) (S182_8 call t0 t20 U H)) (pEql t15 (.int .i64 (.ofNat 25)) H fun t33 H =>
  onBool t33 (pFa 2 t3 H fun t35 H =>
  ldK .none H t35 fun t36 H =>
  pC call 293 [t0, t36, (.int .i64 (.ofNat 0))] H fun t37 H =>
  some (t37, H)) (pEql t15 (.int .i64 (.ofNat 26)) H fun t39 H =>
  onBool t39 (pFa 2 t3 H fun t41 H =>
  ldK .none H t41 fun t42 H =>
  pC call 293 [t0, t42, (.int .i64 (.ofNat 1))] H fun t43 H =>
  some (t43, H)) (pEql t15 (.int .i64 (.ofNat 37)) H fun t45 H =>
  onBool t45 (pFa 2 t3 H fun t47 H =>
  ldK .none H t47 fun t48 H =>
  pC call 293 [t0, t48, (.int .i64 (.ofNat 3))] H fun t49 H =>
  some (t49, H)) (pEql t15 (.int .i64 (.ofNat 34)) H fun t51 H =>
  onBool t51 (pFa 2 t3 H fun t52 H =>
  ldK .none H t52 fun t53 H =>
  pGeq t53 (.int .i64 (.ofNat 0)) H fun t54 H =>
  guardA t54 true (pFa 2 t3 H fun t56 H =>
  S182_17 call t0 t54 t56 H) (S182_17 call t0 t54 U H)) (pEql t15 (.int .i64 (.ofNat 35)) H fun t67 H =>
  onBool t67 (pFa 1 t3 H fun t68 H =>
  ldK .none H t68 fun t69 H =>
  pGeq t69 (.int .i64 (.ofNat 0)) H fun t70 H =>
  guardA t70 true (pFa 1 t3 H fun t72 H =>
  S182_26 call t0 t70 t72 H) (S182_26 call t0 t70 U H)) (pEql t15 (.int .i64 (.ofNat 20)) H fun t83 H =>
  onBool t83 (pFa 2 t3 H fun t86 H =>
  ldK .none H t86 fun t87 H =>
  pC call 287 [t0, t87] H fun t88 H =>
  pExt t88 0 H fun t89 H =>
  pExt t88 1 H fun t90 H =>
  pNew [(.int .i64 (.ofNat 0)), (.int .i64 (.ofNat 0)), (.int .i64 (.ofNat 0)), (.int .i64 (.ofNat 0)), .nilsl, .nilsl, .nilsl] H fun t4 H =>
  stK 7 H t4 t89 fun _ H =>
  guardA t90 true (pFa 1 t4 H fun t93 H =>
  ldK .none H t93 fun t94 H =>
  pEql t94 (.int .i64 (.ofNat 0)) H fun t95 H =>
  S182_27 call t90 t95 H) (S182_27 call t90 U H)) (pEql t15 (.int .i64 (.ofNat 23)) H fun t98 H =>
  onBool t98 (pFa 1 t3 H fun t101 H =>
  ldK .none H t101 fun t102 H =>
  pC call 287 [t0, t102] H fun t103 H =>
  pExt t103 0 H fun t104 H =>
  pExt t103 1 H fun t105 H =>
  pNew [(.int .i64 (.ofNat 0)), (.int .i64 (.ofNat 0)), (.int .i64 (.ofNat 0)), (.int .i64 (.ofNat 0)), .nilsl, .nilsl, .nilsl] H fun t6 H =>
  stK 7 H t6 t104 fun _ H =>
  guardA t105 true (pFa 1 t6 H fun t108 H =>
  ldK .none H t108 fun t109 H =>
  pEql t109 (.int .i64 (.ofNat 0)) H fun t110 H =>
  S182_29 call t6 t105 t110 H) (S182_29 call t6 t105 U H)) (pEql t15 (.int .i64 (.ofNat 36)) H fun t118 H =>
  onBool t118 (pFa 2 t3 H fun t121 H =>
  ldK .none H t121 fun t122 H =>
  pC call 287 [t0, t122] H fun t123 H =>
  pExt t123 0 H fun t124 H =>
  pExt t123 1 H fun t125 H =>
  pNew [(.int .i64 (.ofNat 0)), (.int .i64 (.ofNat 0)), (.int .i64 (.ofNat 0)), (.int .i64 (.ofNat 0)), .nilsl, .nilsl, .nilsl] H fun t8 H =>
  stK 7 H t8 t124 fun _ H =>
  some (t125, H)) (pEql t15 (.int .i64 (.ofNat 21)) H fun t128 H =>
  onBool t128 (pFa 4 t3 H fun t129 H =>
  ldK .none H t129 fun t130 H =>
  pGeq t130 (.int .i64 (.ofNat 0)) H fun t131 H =>
  some (t131, H)) (pEql t15 (.int .i64 (.ofNat 24)) H fun t133 H =>
  onBool t133 (pFa 3 t3 H fun t134 H =>
  ldK .none H t134 fun t135 H =>
  pGeq t135 (.int .i64 (.ofNat 0)) H fun t136 H =>
  some (t136, H)) (pEql t15 (.int .i64 (.ofNat 44)) H fun t138 H =>
  onBool t138 (pFa 1 t3 H fun t139 H =>
  ldK .none H t139 fun t140 H =>
  pGeq t140 (.int .i64 (.ofNat 1)) H fun t141 H =>
  guardA t141 true (pFa 1 t3 H fun t143 H =>
  ldK .none H t143 fun t144 H =>
  pLeq t144 (.int .i64 (.ofNat 6)) H fun t145 H =>
  S182_30 call t141 t145 H) (S182_30 call t141 U H)) (pEql t15 (.int .i64 (.ofNat 41)) H fun t148 H =>
  onBool t148 (pC call 294 [t0] H fun t150 H =>
  some (t150, H)) (some ((.bool true), H))))))))))))))
noncomputable def S182 : Ff := ⟨fun call l H => argA1 (fun t0 => S182_31 call t0 H) l⟩
/- (*gantline/verify.checker).kinds -/
noncomputable def S183_0 (_ : CallFn) (t86 t93 : AV) (H : AHeap) : R :=
  pPick t86 t93 (.bool false) H fun t94 H =>
  some (t94, H)
noncomputable def S183_1 (_ : CallFn) (t117 t122 : AV) (H : AHeap) : R :=
  pPick t117 t122 (.bool false) H fun t123 H =>
  some (t123, H)
noncomputable def S183_2 (_ : CallFn) (t164 t169 : AV) (H : AHeap) : R :=
  pPick t164 t169 (.bool false) H fun t170 H =>
  some (t170, H)
noncomputable def S183_3 (_ : CallFn) (t183 t188 : AV) (H : AHeap) : R :=
  pPick t183 t188 (.bool false) H fun t189 H =>
  some (t189, H)
noncomputable def S183_4 (_ : CallFn) (t198 t203 : AV) (H : AHeap) : R :=
  pPick t198 t203 (.bool false) H fun t204 H =>
  some (t204, H)
noncomputable def S183_5 (_ : CallFn) (t247 t257 : AV) (H : AHeap) : R :=
  pPick t247 t257 (.bool false) H fun t258 H =>
  some (t258, H)
noncomputable def S183_6 (call : CallFn) (t247 t251 t256 : AV) (H : AHeap) : R :=
  guardA t247 true (pPick t251 (.bool true) t256 H fun t257 H =>
  S183_5 call t247 t257 H) (S183_5 call t247 U H)
noncomputable def S183_7 (call : CallFn) (t1 t3 t247 t251 : AV) (H : AHeap) : R :=
  guardA t251 false (ldK .none H t1 fun t252 H =>
  pFa 3 t3 H fun t253 H =>
  ldK .none H t253 fun t254 H =>
  pN (aBsl 1 1 [(.int .i64 (.ofNat 0))] [(0, 1, t254)]) H fun t255 H =>
  pC call 295 [t252, (.bool false), t255] H fun t256 H =>
  S183_6 call t247 t251 t256 H) (S183_6 call t247 t251 U H)
noncomputable def S183_8 (call : CallFn) (t1 t3 t4 t174 t176 : AV) (H : AHeap) : R :=
  pPick t174 (.bool true) t176 H fun t177 H =>
  onBool t177 (ldK .none H t1 fun t178 H =>
  pFa 1 t3 H fun t179 H =>
  ldK .none H t179 fun t180 H =>
  pN (aBsl 1 1 [(.int .i64 (.ofNat 0))] [(0, 1, t180)]) H fun t181 H =>
  pC call 295 [t178, (.bool true), t181] H fun t182 H =>
  guardA t182 true (ldK .none H t1 fun t184 H =>
  pFa 2 t3 H fun t185 H =>
  ldK .none H t185 fun t186 H =>
  pN (aBsl 1 1 [(.int .i64 (.ofNat 0))] [(0, 1, t186)]) H fun t187 H =>
  pC call 295 [t184, (.bool false), t187] H fun t188 H =>
  S183_3 call t182 t188 H) (S183_3 call t182 U H)) (pEql t4 (.int .i64 (.ofNat 33)) H fun t192 H =>
  onBool t192 (ldK .none H t1 fun t193 H =>
  pFa 1 t3 H fun t194 H =>
  ldK .none H t194 fun t195 H =>
  pN (aBsl 1 1 [(.int .i64 (.ofNat 0))] [(0, 1, t195)]) H fun t196 H =>
  pC call 295 [t193, (.bool false), t196] H fun t197 H =>
  guardA t197 true (ldK .none H t1 fun t199 H =>
  pFa 2 t3 H fun t200 H =>
  ldK .none H t200 fun t201 H =>
  pN (aBsl 1 1 [(.int .i64 (.ofNat 0))] [(0, 1, t201)]) H fun t202 H =>
  pC call 295 [t199, (.bool true), t202] H fun t203 H =>
  S183_4 call t197 t203 H) (S183_4 call t197 U H)) (pEql t4 (.int .i64 (.ofNat 34)) H fun t207 H =>
  onBool t207 (ldK .none H t1 fun t208 H =>
  ldK .none H t1 fun t209 H =>
  pO (aNil t209) H fun t210 H =>
  pFa 0 t210 H fun t211 H =>
  pFa 1 t211 H fun t212 H =>
  ldK .none H t212 fun t213 H =>
  pFa 2 t3 H fun t214 H =>
  ldK .none H t214 fun t215 H =>
  pIa 1 t213 t215 H fun t216 H =>
  ldK .none H t216 fun t217 H =>
  pFa 1 t3 H fun t218 H =>
  ldK .none H t218 fun t219 H =>
  pN (aBsl 1 1 [(.int .i64 (.ofNat 0))] [(0, 1, t219)]) H fun t220 H =>
  pC call 295 [t208, t217, t220] H fun t221 H =>
  some (t221, H)) (pEql t4 (.int .i64 (.ofNat 35)) H fun t224 H =>
  onBool t224 (ldK .none H t1 fun t225 H =>
  ldK .none H t1 fun t226 H =>
  pO (aNil t226) H fun t227 H =>
  pFa 0 t227 H fun t228 H =>
  pFa 1 t228 H fun t229 H =>
  ldK .none H t229 fun t230 H =>
  pFa 1 t3 H fun t231 H =>
  ldK .none H t231 fun t232 H =>
  pIa 1 t230 t232 H fun t233 H =>
  ldK .none H t233 fun t234 H =>
  pFa 2 t3 H fun t235 H =>
  ldK .none H t235 fun t236 H =>
  pN (aBsl 1 1 [(.int .i64 (.ofNat 0))] [(0, 1, t236)]) H fun t237 H =>
  pC call 295 [t225, t234, t237] H fun t238 H =>
  some (t238, H)) (pEql t4 (.int .i64 (.ofNat 39)) H fun t241 H =>
  onBool t241 (ldK .none H t1 fun t242 H =>
  pFa 2 t3 H fun t243 H =>
  ldK .none H t243 fun t244 H =>
  pN (aBsl 1 1 [(.int .i64 (.ofNat 0))] [(0, 1, t244)]) H fun t245 H =>
  pC call 295 [t242, (.bool true), t245] H fun t246 H =>
  guardA t246 true (pFa 3 t3 H fun t248 H =>
  ldK .none H t248 fun t249 H =>
  pEql t249 (.int .i64 (.negSucc 0)) H fun t250 H =>
  S183_7 call t1 t3 t246 t250 H) (S183_7 call t1 t3 t246 U H)) (pEql t4 (.int .i64 (.ofNat 41)) H fun t261 H =>
  onBool t261 (ldK .none H t1 fun t263 H =>
  pC call 288 [t263] H fun t264 H =>
  pExt t264 0 H fun t265 H =>
  pExt t264 1 H fun _ H =>
  pC call 289 [t265, (.fn 296 [] [t1])] H fun t269 H =>
  pO (aUn .not t269) H fun t270 H =>
  some (t270, H)) (ldK .none H t1 fun t271 H =>
  pC call 297 [t271] H fun t272 H =>
  some (t272, H)))))))
noncomputable def S183_9 (call : CallFn) (t1 t3 t4 t147 t149 : AV) (H : AHeap) : R :=
  pPick t147 (.bool true) t149 H fun t150 H =>
  onBool t150 (ldK .none H t1 fun t151 H =>
  pFa 1 t3 H fun t152 H =>
  ldK .none H t152 fun t153 H =>
  pN (aBsl 1 1 [(.int .i64 (.ofNat 0))] [(0, 1, t153)]) H fun t154 H =>
  pC call 295 [t151, (.bool true), t154] H fun t155 H =>
  some (t155, H)) (pEql t4 (.int .i64 (.ofNat 30)) H fun t158 H =>
  onBool t158 (ldK .none H t1 fun t159 H =>
  pFa 2 t3 H fun t160 H =>
  ldK .none H t160 fun t161 H =>
  pN (aBsl 1 1 [(.int .i64 (.ofNat 0))] [(0, 1, t161)]) H fun t162 H =>
  pC call 295 [t159, (.bool true), t162] H fun t163 H =>
  guardA t163 true (ldK .none H t1 fun t165 H =>
  pFa 3 t3 H fun t166 H =>
  ldK .none H t166 fun t167 H =>
  pN (aBsl 1 1 [(.int .i64 (.ofNat 0))] [(0, 1, t167)]) H fun t168 H =>
  pC call 295 [t165, (.bool false), t168] H fun t169 H =>
  S183_2 call t163 t169 H) (S183_2 call t163 U H)) (pEql t4 (.int .i64 (.ofNat 31)) H fun t173 H =>
  guardA t173 false (pEql t4 (.int .i64 (.ofNat 32)) H fun t176 H =>
  S183_8 call t1 t3 t4 t173 t176 H) (S183_8 call t1 t3 t4 t173 U H)))
noncomputable def S183_10 (call : CallFn) (t1 t3 t4 t143 t145 : AV) (H : AHeap) : R :=
  pPick t143 (.bool true) t145 H fun t146 H =>
  guardA t146 false (pEql t4 (.int .i64 (.ofNat 38)) H fun t149 H =>
  S183_9 call t1 t3 t4 t146 t149 H) (S183_9 call t1 t3 t4 t146 U H)
noncomputable def S183_11 (call : CallFn) (t1 t3 t4 t139 t141 : AV) (H : AHeap) : R :=
  pPick t139 (.bool true) t141 H fun t142 H =>
  guardA t142 false (pEql t4 (.int .i64 (.ofNat 24)) H fun t145 H =>
  S183_10 call t1 t3 t4 t142 t145 H) (S183_10 call t1 t3 t4 t142 U H)
noncomputable def S183_12 (call : CallFn) (t1 t3 t4 t127 t129 : AV) (H : AHeap) : R :=
  pPick t127 (.bool true) t129 H fun t130 H =>
  onBool t130 (ldK .none H t1 fun t131 H =>
  pFa 2 t3 H fun t132 H =>
  ldK .none H t132 fun t133 H =>
  pN (aBsl 1 1 [(.int .i64 (.ofNat 0))] [(0, 1, t133)]) H fun t134 H =>
  pC call 295 [t131, (.bool true), t134] H fun t135 H =>
  some (t135, H)) (pEql t4 (.int .i64 (.ofNat 28)) H fun t138 H =>
  guardA t138 false (pEql t4 (.int .i64 (.ofNat 29)) H fun t141 H =>
  S183_11 call t1 t3 t4 t138 t141 H) (S183_11 call t1 t3 t4 t138 U H))
noncomputable def S183_13 (call : CallFn) (t1 t3 t4 t108 t110 : AV) (H : AHeap) : R :=
  pPick t108 (.bool true) t110 H fun t111 H =>
  onBool t111 (ldK .none H t1 fun t112 H =>
  pFa 1 t3 H fun t113 H =>
  ldK .none H t113 fun t114 H =>
  pN (aBsl 1 1 [(.int .i64 (.ofNat 0))] [(0, 1, t114)]) H fun t115 H =>
  pC call 295 [t112, (.bool true), t115] H fun t116 H =>
  guardA t116 true (ldK .none H t1 fun t118 H =>
  pFa 3 t3 H fun t119 H =>
  ldK .none H t119 fun t120 H =>
  pN (aBsl 1 1 [(.int .i64 (.ofNat 0))] [(0, 1, t120)]) H fun t121 H =>
  pC call 295 [t118, (.bool false), t121] H fun t122 H =>
  S183_1 call t116 t122 H) (S183_1 call t116 U H)) (pEql t4 (.int .i64 (.ofNat 27)) H fun t126 H =>
  guardA t126 false (pEql t4 (.int .i64 (.ofNat 21)) H fun t129 H =>
  S183_12 call t1 t3 t4 t126 t129 H) (S183_12 call t1 t3 t4 t126 U H))
noncomputable def S183_14 (call : CallFn) (t1 t3 t4 t65 t67 : AV) (H : AHeap) : R :=
  pPick t65 t67 (.bool false) H fun t68 H =>
  onBool t68 (ldK .none H t1 fun t69 H =>
  pFa 1 t3 H fun t70 H =>
  ldK .none H t70 fun t71 H =>
  pFa 2 t3 H fun t72 H =>
  ldK .none H t72 fun t73 H =>
  pFa 3 t3 H fun t74 H =>
  ldK .none H t74 fun t75 H =>
  pN (aBsl 1 3 [(.int .i64 (.ofNat 0))] [(0, 1, t71), (1, 1, t73), (2, 1, t75)]) H fun t76 H =>
  pC call 295 [t69, (.bool false), t76] H fun t77 H =>
  some (t77, H)) (pEql t4 (.int .i64 (.ofNat 16)) H fun t80 H =>
  onBool t80 (ldK .none H t1 fun t81 H =>
  pFa 1 t3 H fun t82 H =>
  ldK .none H t82 fun t83 H =>
  pN (aBsl 1 1 [(.int .i64 (.ofNat 0))] [(0, 1, t83)]) H fun t84 H =>
  pC call 295 [t81, (.bool false), t84] H fun t85 H =>
  guardA t85 true (ldK .none H t1 fun t87 H =>
  pFa 2 t3 H fun t88 H =>
  ldK .none H t88 fun t89 H =>
  pFa 3 t3 H fun t90 H =>
  ldK .none H t90 fun t91 H =>
  pN (aBsl 1 2 [(.int .i64 (.ofNat 0))] [(0, 1, t89), (1, 1, t91)]) H fun t92 H =>
  pC call 295 [t87, (.bool true), t92] H fun t93 H =>
  S183_0 call t85 t93 H) (S183_0 call t85 U H)) (pEql t4 (.int .i64 (.ofNat 17)) H fun t97 H =>
  onBool t97 (ldK .none H t1 fun t98 H =>
  pFa 1 t3 H fun t99 H =>
  ldK .none H t99 fun t100 H =>
  pFa 2 t3 H fun t101 H =>
  ldK .none H t101 fun t102 H =>
  pN (aBsl 1 2 [(.int .i64 (.ofNat 0))] [(0, 1, t100), (1, 1, t102)]) H fun t103 H =>
  pC call 295 [t98, (.bool false), t103] H fun t104 H =>
  some (t104, H)) (pEql t4 (.int .i64 (.ofNat 26)) H fun t107 H =>
  guardA t107 false (pEql t4 (.int .i64 (.ofNat 37)) H fun t110 H =>
  S183_13 call t1 t3 t4 t107 t110 H) (S183_13 call t1 t3 t4 t107 U H))))
noncomputable def S183_15 (call : CallFn) (t1 t3 t4 t53 t55 : AV) (H : AHeap) : R :=
  pPick t53 (.bool true) t55 H fun t56 H =>
  onBool t56 (ldK .none H t1 fun t57 H =>
  pFa 1 t3 H fun t58 H =>
  ldK .none H t58 fun t59 H =>
  pN (aBsl 1 1 [(.int .i64 (.ofNat 0))] [(0, 1, t59)]) H fun t60 H =>
  pC call 295 [t57, (.bool true), t60] H fun t61 H =>
  some (t61, H)) (pGeq t4 (.int .i64 (.ofNat 3)) H fun t64 H =>
  guardA t64 true (pLeq t4 (.int .i64 (.ofNat 15)) H fun t67 H =>
  S183_14 call t1 t3 t4 t64 t67 H) (S183_14 call t1 t3 t4 t64 U H))
noncomputable def S183_16 (call : CallFn) (t1 t3 t4 t49 t51 : AV) (H : AHeap) : R :=
  pPick t49 (.bool true) t51 H fun t52 H =>
  guardA t52 false (pEql t4 (.int .i64 (.ofNat 40)) H fun t55 H =>
  S183_15 call t1 t3 t4 t52 t55 H) (S183_15 call t1 t3 t4 t52 U H)
noncomputable def S183_17 (call : CallFn) (t1 t3 t4 t20 t22 : AV) (H : AHeap) : R :=
  pPick t20 (.bool true) t22 H fun t23 H =>
  onBool t23 (ldK .none H t1 fun t24 H =>
  pFa 1 t3 H fun t25 H =>
  ldK .none H t25 fun t26 H =>
  pN (aBsl 1 1 [(.int .i64 (.ofNat 0))] [(0, 1, t26)]) H fun t27 H =>
  pC call 295 [t24, (.bool false), t27] H fun t28 H =>
  some (t28, H)) (pEql t4 (.int .i64 (.ofNat 1)) H fun t31 H =>
  onBool t31 (ldK .none H t1 fun t32 H =>
  ldK .none H t1 fun t33 H =>
  pO (aNil t33) H fun t34 H =>
  pFa 6 t34 H fun t35 H =>
  pFa 4 t35 H fun t36 H =>
  ldK .none H t36 fun t37 H =>
  pFa 2 t3 H fun t38 H =>
  ldK .none H t38 fun t39 H =>
  pIa 1 t37 t39 H fun t40 H =>
  ldK .none H t40 fun t41 H =>
  pFa 1 t3 H fun t42 H =>
  ldK .none H t42 fun t43 H =>
  pN (aBsl 1 1 [(.int .i64 (.ofNat 0))] [(0, 1, t43)]) H fun t44 H =>
  pC call 295 [t32, t41, t44] H fun t45 H =>
  some (t45, H)) (pEql t4 (.int .i64 (.ofNat 2)) H fun t48 H =>
  guardA t48 false (pEql t4 (.int .i64 (.ofNat 25)) H fun t51 H =>
  S183_16 call t1 t3 t4 t48 t51 H) (S183_16 call t1 t3 t4 t48 U H)))
noncomputable def S183_18 (call : CallFn) (t1 t3 t4 t16 t18 : AV) (H : AHeap) : R :=
  pPick t16 (.bool true) t18 H fun t19 H =>
  guardA t19 false (pEql t4 (.int .i64 (.ofNat 42)) H fun t22 H =>
  S183_17 call t1 t3 t4 t19 t22 H) (S183_17 call t1 t3 t4 t19 U H)
noncomputable def S183_19 (call : CallFn) (t0 : AV) (H : AHeap) : R :=
  pBox t0 H fun t1 H =>
  ldK .none H t1 fun t7 H =>
  pO (aNil t7) H fun t8 H =>
  pFa 17 t8 H fun t9 H =>
  ldK (.some 5) H t9 fun t10 H =>
  pNew [(.int .i64 (.ofNat 0)), (.int .i64 (.ofNat 0)), (.int .i64 (.ofNat 0)), (.int .i64 (.ofNat 0)), (.int .i64 (.ofNat 0))] H fun t3 H =>
  stK 5 H t3 t10 fun _ H =>
  pFa 0 t3 H fun t11 H =>
  ldK .none H t11 fun t12 H =>
  pEql t12 (.int .i64 (.ofNat 0)) H fun t15 H =>
  guardA t15 false (pEql t12 (.int .i64 (.ofNat 19)) H fun t18 H =>
  S183_18 call t1 t3 t12 t15 t18 H) (S183_18 call t1 t3 t12 t15 U H)
noncomputable def S183 : Ff := ⟨fun call l H => argA1 (fun t0 => S183_19 call t0 H) l⟩
/- (*gantline/verify.checker).on -/
noncomputable def S184_0 (_ : CallFn) (t42 : AV) (H : AHeap) : R :=
  onBool t42 (some ((.bool true), H)) (some ((.bool false), H))
noncomputable def S184_1 (call : CallFn) (t0 : AV) (H : AHeap) : R :=
  pO (aNil t0) H fun t26 H =>
  pFa 16 t26 H fun t27 H =>
  ldK .none H t27 fun t28 H =>
  pO (aNil t0) H fun t30 H =>
  pFa 6 t30 H fun t31 H =>
  pFa 5 t31 H fun t32 H =>
  ldK .none H t32 fun t33 H =>
  pO (aLen .sl H t33) H fun t34 H =>
  pSub t34 (.int .i64 (.ofNat 1)) H fun t35 H =>
  pLss t28 t35 H fun t36 H =>
  onBool t36 (some ((.bool true), H)) (pO (aNil t0) H fun t38 H =>
  pFa 17 t38 H fun t39 H =>
  pFa 0 t39 H fun t40 H =>
  ldK .none H t40 fun t41 H =>
  pEql t41 (.int .i64 (.ofNat 18)) H fun t43 H =>
  onBool t43 (S184_0 call t43 H) (pEql t41 (.int .i64 (.ofNat 22)) H fun t44 H =>
  onBool t44 (S184_0 call t44 H) (pEql t41 (.int .i64 (.ofNat 44)) H fun t45 H =>
  onBool t45 (S184_0 call t45 H) (pEql t41 (.int .i64 (.ofNat 41)) H fun t46 H =>
  S184_0 call t46 H))))
noncomputable def S184_3 (_ : CallFn) (q0 : AV → AV → AV → AV → AHeap → R) (t0 t6 t7 t8 t14 t22 : AV) (H : AHeap) : R :=
  pPick t14 (.bool true) t22 H fun t23 H =>
  onBool t23 (some ((.bool false), H)) (pAdd t8 (.int .i64 (.ofNat 1)) H fun t24 H =>
  q0 t0 t6 t7 t24 H)
noncomputable def S184_2 (call : CallFn) (n : Nat) : AV → AV → AV → AV → AHeap → R :=
  Nat.rec (motive := fun _ => AV → AV → AV → AV → AHeap → R) (fun _ _ _ _ _ => none) (fun _ q0 t0 t6 t7 t8 H => pLss t8 t7 H fun t9 H =>
  onBool t9 (pIa 1 t6 t8 H fun t10 H =>
  ldK .none H t10 fun t11 H =>
  pLss t11 (.int .i64 (.ofNat 0)) H fun t13 H =>
  guardA t13 false (pO (aNil t0) H fun t17 H =>
  pFa 6 t17 H fun t18 H =>
  pFa 5 t18 H fun t19 H =>
  ldK .none H t19 fun t20 H =>
  pO (aLen .sl H t20) H fun t21 H =>
  pGeq t11 t21 H fun t22 H =>
  S184_3 call q0 t0 t6 t7 t8 t13 t22 H) (S184_3 call q0 t0 t6 t7 t8 t13 U H)) (S184_1 call t0 H)) n
noncomputable def S184_4 (call : CallFn) (t0 : AV) (H : AHeap) : R :=
  pC call 298 [t0] H fun t6 H =>
  pO (aLen .sl H t6) H fun t7 H =>
  S184_2 call 1000000 t0 t6 t7 (.int .i64 (.ofNat 0)) H
noncomputable def S184 : Ff := ⟨fun call l H => argA1 (fun t0 => S184_4 call t0 H) l⟩
/- (*gantline/verify.checker).back -/
noncomputable def S185_1 (_ : CallFn) (q0 : AV → AV → AV → AV → AHeap → R) (t0 t6 t7 t8 t18 t28 : AV) (H : AHeap) : R :=
  pPick t18 t28 (.bool false) H fun t29 H =>
  onBool t29 (some ((.bool false), H)) (pAdd t8 (.int .i64 (.ofNat 1)) H fun t30 H =>
  q0 t0 t6 t7 t30 H)
noncomputable def S185_0 (call : CallFn) (n : Nat) : AV → AV → AV → AV → AHeap → R :=
  Nat.rec (motive := fun _ => AV → AV → AV → AV → AHeap → R) (fun _ _ _ _ _ => none) (fun _ q0 t0 t6 t7 t8 H => pLss t8 t7 H fun t9 H =>
  onBool t9 (pIa 1 t6 t8 H fun t10 H =>
  ldK .none H t10 fun t11 H =>
  pO (aNil t0) H fun t14 H =>
  pFa 16 t14 H fun t15 H =>
  ldK .none H t15 fun t16 H =>
  pLeq t11 t16 H fun t17 H =>
  guardA t17 true (pO (aNil t0) H fun t20 H =>
  pFa 6 t20 H fun t21 H =>
  pFa 5 t21 H fun t22 H =>
  ldK .none H t22 fun t23 H =>
  pIa 5 t23 t11 H fun t25 H =>
  pFa 0 t25 H fun t26 H =>
  ldK .none H t26 fun t27 H =>
  pNeq t27 (.int .i64 (.ofNat 43)) H fun t28 H =>
  S185_1 call q0 t0 t6 t7 t8 t17 t28 H) (S185_1 call q0 t0 t6 t7 t8 t17 U H)) (some ((.bool true), H))) n
noncomputable def S185_2 (call : CallFn) (t0 : AV) (H : AHeap) : R :=
  pC call 298 [t0] H fun t6 H =>
  pO (aLen .sl H t6) H fun t7 H =>
  S185_0 call 1000000 t0 t6 t7 (.int .i64 (.ofNat 0)) H
noncomputable def S185 : Ff := ⟨fun call l H => argA1 (fun t0 => S185_2 call t0 H) l⟩
/- (*gantline/verify.checker).bare -/
noncomputable def S186_0 (call : CallFn) (t0 : AV) (H : AHeap) : R :=
  pO (aNil t0) H fun t35 H =>
  pFa 6 t35 H fun t36 H =>
  ldK (.some 7) H t36 fun t37 H =>
  pO (aNil t0) H fun t39 H =>
  pFa 14 t39 H fun t40 H =>
  ldK .none H t40 fun t41 H =>
  pO (aNil t0) H fun t43 H =>
  pFa 16 t43 H fun t44 H =>
  ldK .none H t44 fun t45 H =>
  pC call 87 [t37, t41, t45] H fun t46 H =>
  some (t46, H)
noncomputable def S186_1 (call : CallFn) (t0 t9 t15 : AV) (H : AHeap) : R :=
  pPick t9 t15 (.bool false) H fun t16 H =>
  onBool t16 (some ((.bool true), H)) (pO (aNil t0) H fun t18 H =>
  pFa 14 t18 H fun t19 H =>
  ldK .none H t19 fun t20 H =>
  pO (aEq false .sl t20 .nilsl) H fun t21 H =>
  onBool t21 (pO (aNil t0) H fun t24 H =>
  pFa 0 t24 H fun t25 H =>
  ldK (.some 6) H t25 fun t26 H =>
  pO (aNil t0) H fun t28 H =>
  pFa 6 t28 H fun t29 H =>
  ldK (.some 7) H t29 fun t30 H =>
  pC call 86 [t26, t30] H fun t31 H =>
  pO (aNil t0) H fun t32 H =>
  pFa 14 t32 H fun t33 H =>
  stK 1 H t33 t31 fun _ H =>
  S186_0 call t0 H) (S186_0 call t0 H))
noncomputable def S186_2 (call : CallFn) (t0 : AV) (H : AHeap) : R :=
  pO (aNil t0) H fun t4 H =>
  pFa 17 t4 H fun t5 H =>
  pFa 0 t5 H fun t6 H =>
  ldK .none H t6 fun t7 H =>
  pNeq t7 (.int .i64 (.ofNat 29)) H fun t8 H =>
  guardA t8 true (pO (aNil t0) H fun t11 H =>
  pFa 17 t11 H fun t12 H =>
  pFa 0 t12 H fun t13 H =>
  ldK .none H t13 fun t14 H =>
  pNeq t14 (.int .i64 (.ofNat 32)) H fun t15 H =>
  S186_1 call t0 t8 t15 H) (S186_1 call t0 t8 U H)
noncomputable def S186 : Ff := ⟨fun call l H => argA1 (fun t0 => S186_2 call t0 H) l⟩
/- internal/stringslite.HasPrefix -/
noncomputable def S187_0 (_ : CallFn) (t10 t16 : AV) (H : AHeap) : R :=
  pPick t10 t16 (.bool false) H fun t17 H =>
  some (t17, H)
noncomputable def S187_1 (call : CallFn) (t0 t1 : AV) (H : AHeap) : R :=
  pO (aLen .str H t0) H fun t6 H =>
  pO (aLen .str H t1) H fun t8 H =>
  pGeq t6 t8 H fun t9 H =>
  guardA t9 true (pO (aLen .str H t1) H fun t13 H =>
  pO (aSliceS t0 .none (.some t13)) H fun t14 H =>
  pEql t14 t1 H fun t16 H =>
  S187_0 call t9 t16 H) (S187_0 call t9 U H)
noncomputable def S187 : Ff := ⟨fun call l H => argA2 (fun t0 t1 => S187_1 call t0 t1 H) l⟩
/- internal/strconv.ParseUint -/
noncomputable def S188_0 (_ : CallFn) (t13 t165 t168 : AV) (H : AHeap) : R :=
  pPick t165 t168 (.bool false) H fun t169 H =>
  onBool t169 (some (.tup [(.int .u64 (.ofNat 0)), (.iface 375 (.int .i64 (.ofNat 2)))], H)) (some (.tup [t13, .nilif], H))
noncomputable def S188_1 (call : CallFn) (t9 t12 t13 : AV) (H : AHeap) : R :=
  guardA t12 true (pC call 300 [t9] H fun t167 H =>
  pO (aUn .not t167) H fun t168 H =>
  S188_0 call t13 t12 t168 H) (S188_0 call t13 t12 U H)
noncomputable def S188_3 (_ : CallFn) (q0 : AV → AV → AV → AV → AV → AV → AV → AV → AV → AV → AHeap → R) (t1 t8 t9 t10 t11 t12 t13 t99 t100 t101 : AV) (H : AHeap) : R :=
  pAdd t101 (.int .i64 (.ofNat 1)) H fun t163 H =>
  q0 t1 t8 t9 t10 t11 t12 t13 t99 t100 t163 H
noncomputable def S188_4 (call : CallFn) (q0 : AV → AV → AV → AV → AV → AV → AV → AV → AV → AV → AHeap → R) (t1 t8 t9 t10 t11 t12 t17 t99 t100 t101 t155 t158 : AV) (H : AHeap) : R :=
  pPick t155 (.bool true) t158 H fun t159 H =>
  onBool t159 (some (.tup [t11, (.iface 375 (.int .i64 (.ofNat 1)))], H)) (S188_3 call q0 t1 t8 t9 t10 t11 t12 t17 t99 t100 t101 H)
noncomputable def S188_5 (call : CallFn) (q0 : AV → AV → AV → AV → AV → AV → AV → AV → AV → AV → AHeap → R) (t1 t8 t9 t10 t11 t12 t13 t16 t99 t100 t101 : AV) (H : AHeap) : R :=
  pConv .u8 t1 H fun t136 H =>
  pGeq t16 t136 H fun t137 H =>
  onBool t137 (some (.tup [(.int .u64 (.ofNat 0)), (.iface 375 (.int .i64 (.ofNat 2)))], H)) (pGeq t13 t10 H fun t141 H =>
  onBool t141 (some (.tup [t11, (.iface 375 (.int .i64 (.ofNat 1)))], H)) (pConv .u64 t1 H fun t146 H =>
  pMul t13 t146 H fun t147 H =>
  pConv .u64 t16 H fun t150 H =>
  pAdd t147 t150 H fun t151 H =>
  pLss t151 t147 H fun t154 H =>
  guardA t154 false (pGtr t151 t11 H fun t158 H =>
  S188_4 call q0 t1 t8 t9 t10 t11 t12 t151 t99 t100 t101 t154 t158 H) (S188_4 call q0 t1 t8 t9 t10 t11 t12 t151 t99 t100 t101 t154 U H)))
noncomputable def S188_6 (call : CallFn) (q0 : AV → AV → AV → AV → AV → AV → AV → AV → AV → AV → AHeap → R) (t1 t8 t9 t10 t11 t12 t13 t15 t99 t100 t101 t125 t128 : AV) (H : AHeap) : R :=
  pPick t125 t128 (.bool false) H fun t129 H =>
  onBool t129 (pC call 299 [t15] H fun t131 H =>
  pSub t131 (.int .u8 (.ofNat 97)) H fun t132 H =>
  pAdd t132 (.int .u8 (.ofNat 10)) H fun t133 H =>
  S188_5 call q0 t1 t8 t9 t10 t11 t12 t13 t133 t99 t100 t101 H) (some (.tup [(.int .u64 (.ofNat 0)), (.iface 375 (.int .i64 (.ofNat 2)))], H))
noncomputable def S188_7 (call : CallFn) (q0 : AV → AV → AV → AV → AV → AV → AV → AV → AV → AV → AHeap → R) (t1 t8 t9 t10 t11 t12 t13 t15 t99 t100 t101 t115 t117 : AV) (H : AHeap) : R :=
  pPick t115 t117 (.bool false) H fun t118 H =>
  onBool t118 (pSub t15 (.int .u8 (.ofNat 48)) H fun t120 H =>
  S188_5 call q0 t1 t8 t9 t10 t11 t12 t13 t120 t99 t100 t101 H) (pC call 299 [t15] H fun t123 H =>
  pLeq (.int .u8 (.ofNat 97)) t123 H fun t124 H =>
  guardA t124 true (pC call 299 [t15] H fun t127 H =>
  pLeq t127 (.int .u8 (.ofNat 122)) H fun t128 H =>
  S188_6 call q0 t1 t8 t9 t10 t11 t12 t13 t15 t99 t100 t101 t124 t128 H) (S188_6 call q0 t1 t8 t9 t10 t11 t12 t13 t15 t99 t100 t101 t124 U H))
noncomputable def S188_8 (call : CallFn) (q0 : AV → AV → AV → AV → AV → AV → AV → AV → AV → AV → AHeap → R) (t1 t8 t9 t10 t11 t12 t13 t15 t99 t100 t101 t109 t110 : AV) (H : AHeap) : R :=
  pPick t109 t110 (.bool false) H fun t111 H =>
  onBool t111 (S188_3 call q0 t1 t8 t9 t10 t11 (.bool true) t13 t99 t100 t101 H) (pLeq (.int .u8 (.ofNat 48)) t15 H fun t114 H =>
  guardA t114 true (pLeq t15 (.int .u8 (.ofNat 57)) H fun t117 H =>
  S188_7 call q0 t1 t8 t9 t10 t11 t12 t13 t15 t99 t100 t101 t114 t117 H) (S188_7 call q0 t1 t8 t9 t10 t11 t12 t13 t15 t99 t100 t101 t114 U H))
noncomputable def S188_2 (call : CallFn) (n : Nat) : AV → AV → AV → AV → AV → AV → AV → AV → AV → AV → AHeap → R :=
  Nat.rec (motive := fun _ => AV → AV → AV → AV → AV → AV → AV → AV → AV → AV → AHeap → R) (fun _ _ _ _ _ _ _ _ _ _ _ => none) (fun _ q0 t1 t8 t9 t10 t11 t12 t13 t99 t100 t101 H => pLss t101 t100 H fun t102 H =>
  onBool t102 (pIa 1 t99 t101 H fun t103 H =>
  ldK .none H t103 fun t104 H =>
  pEql t104 (.int .u8 (.ofNat 95)) H fun t108 H =>
  guardA t108 true (S188_8 call q0 t1 t8 t9 t10 t11 t12 t13 t104 t99 t100 t101 t108 t8 H) (S188_8 call q0 t1 t8 t9 t10 t11 t12 t13 t104 t99 t100 t101 t108 U H)) (S188_1 call t9 t12 t13 H)) n
noncomputable def S188_9 (call : CallFn) (t0 t1 t2 t8 t9 t10 : AV) (H : AHeap) : R :=
  pConv .u64 t2 H fun t95 H =>
  pO (aBin .shl (.int .u64 (.ofNat 1)) t95) H fun t96 H =>
  pSub t96 (.int .u64 (.ofNat 1)) H fun t97 H =>
  pW (aS2b H t0) fun t99 H =>
  pO (aLen .sl H t99) H fun t100 H =>
  S188_2 call 1000000 t1 t8 t9 t10 t97 (.bool false) (.int .u64 (.ofNat 0)) t99 t100 (.int .i64 (.ofNat 0)) H
noncomputable def S188_10 (call : CallFn) (t0 t1 t2 t8 t9 : AV) (H : AHeap) : R :=
  pEql t1 (.int .i64 (.ofNat 10)) H fun t91 H =>
  onBool t91 (S188_9 call t0 t1 t2 t8 t9 (.int .u64 (.ofNat 1844674407370955162)) H) (pEql t1 (.int .i64 (.ofNat 16)) H fun t93 H =>
  onBool t93 (S188_9 call t0 t1 t2 t8 t9 (.int .u64 (.ofNat 1152921504606846976)) H) (pConv .u64 t1 H fun t87 H =>
  pO (aBin .quo (.int .u64 (.ofNat 18446744073709551615)) t87) H fun t88 H =>
  pAdd t88 (.int .u64 (.ofNat 1)) H fun t89 H =>
  S188_9 call t0 t1 t2 t8 t9 t89 H))
noncomputable def S188_11 (call : CallFn) (t0 t1 t2 t8 t9 t80 t82 : AV) (H : AHeap) : R :=
  pPick t80 (.bool true) t82 H fun t83 H =>
  onBool t83 (some (.tup [(.int .u64 (.ofNat 0)), (.iface 375 (.int .i64 (.ofNat 4)))], H)) (S188_10 call t0 t1 t2 t8 t9 H)
noncomputable def S188_12 (call : CallFn) (t0 t1 t2 t8 t9 : AV) (H : AHeap) : R :=
  pEql t2 (.int .i64 (.ofNat 0)) H fun t77 H =>
  onBool t77 (S188_10 call t0 t1 (.int .i64 (.ofNat 64)) t8 t9 H) (pLss t2 (.int .i64 (.ofNat 0)) H fun t79 H =>
  guardA t79 false (pGtr t2 (.int .i64 (.ofNat 64)) H fun t82 H =>
  S188_11 call t0 t1 t2 t8 t9 t79 t82 H) (S188_11 call t0 t1 t2 t8 t9 t79 U H))
noncomputable def S188_13 (call : CallFn) (t0 t2 t8 t9 t68 t72 : AV) (H : AHeap) : R :=
  pPick t68 t72 (.bool false) H fun t73 H =>
  onBool t73 (pO (aSliceS t0 (.some (.int .i64 (.ofNat 2))) .none) H fun t75 H =>
  S188_12 call t75 (.int .i64 (.ofNat 16)) t2 t8 t9 H) (pO (aSliceS t0 (.some (.int .i64 (.ofNat 1))) .none) H fun t39 H =>
  S188_12 call t39 (.int .i64 (.ofNat 8)) t2 t8 t9 H)
noncomputable def S188_14 (call : CallFn) (t0 t2 t8 t9 t56 t60 : AV) (H : AHeap) : R :=
  pPick t56 t60 (.bool false) H fun t61 H =>
  onBool t61 (pO (aSliceS t0 (.some (.int .i64 (.ofNat 2))) .none) H fun t63 H =>
  S188_12 call t63 (.int .i64 (.ofNat 8)) t2 t8 t9 H) (pO (aLen .str H t0) H fun t66 H =>
  pGeq t66 (.int .i64 (.ofNat 3)) H fun t67 H =>
  guardA t67 true (pO (aIdxS t0 (.int .i64 (.ofNat 1))) H fun t70 H =>
  pC call 299 [t70] H fun t71 H =>
  pEql t71 (.int .u8 (.ofNat 120)) H fun t72 H =>
  S188_13 call t0 t2 t8 t9 t67 t72 H) (S188_13 call t0 t2 t8 t9 t67 U H))
noncomputable def S188_15 (call : CallFn) (t0 t2 t8 t9 t44 t48 : AV) (H : AHeap) : R :=
  pPick t44 t48 (.bool false) H fun t49 H =>
  onBool t49 (pO (aSliceS t0 (.some (.int .i64 (.ofNat 2))) .none) H fun t51 H =>
  S188_12 call t51 (.int .i64 (.ofNat 2)) t2 t8 t9 H) (pO (aLen .str H t0) H fun t54 H =>
  pGeq t54 (.int .i64 (.ofNat 3)) H fun t55 H =>
  guardA t55 true (pO (aIdxS t0 (.int .i64 (.ofNat 1))) H fun t58 H =>
  pC call 299 [t58] H fun t59 H =>
  pEql t59 (.int .u8 (.ofNat 111)) H fun t60 H =>
  S188_14 call t0 t2 t8 t9 t55 t60 H) (S188_14 call t0 t2 t8 t9 t55 U H))
noncomputable def S188_16 (call : CallFn) (t0 t1 t2 t8 t9 t28 t30 : AV) (H : AHeap) : R :=
  pPick t28 t30 (.bool false) H fun t31 H =>
  onBool t31 (S188_12 call t0 t1 t2 t8 t9 H) (pEql t1 (.int .i64 (.ofNat 0)) H fun t34 H =>
  onBool t34 (pO (aIdxS t0 (.int .i64 (.ofNat 0))) H fun t36 H =>
  pEql t36 (.int .u8 (.ofNat 48)) H fun t37 H =>
  onBool t37 (pO (aLen .str H t0) H fun t42 H =>
  pGeq t42 (.int .i64 (.ofNat 3)) H fun t43 H =>
  guardA t43 true (pO (aIdxS t0 (.int .i64 (.ofNat 1))) H fun t46 H =>
  pC call 299 [t46] H fun t47 H =>
  pEql t47 (.int .u8 (.ofNat 98)) H fun t48 H =>
  S188_15 call t0 t2 t8 t9 t43 t48 H) (S188_15 call t0 t2 t8 t9 t43 U H)) (S188_12 call t0 (.int .i64 (.ofNat 10)) t2 t8 t9 H)) (some (.tup [(.int .u64 (.ofNat 0)), (.iface 375 (.int .i64 (.ofNat 3)))], H)))
noncomputable def S188_17 (call : CallFn) (t0 t1 t2 : AV) (H : AHeap) : R :=
  pEql t0 (.str []) H fun t19 H =>
  onBool t19 (some (.tup [(.int .u64 (.ofNat 0)), (.iface 375 (.int .i64 (.ofNat 2)))], H)) (pEql t1 (.int .i64 (.ofNat 0)) H fun t22 H =>
  pLeq (.int .i64 (.ofNat 2)) t1 H fun t27 H =>
  guardA t27 true (pLeq t1 (.int .i64 (.ofNat 36)) H fun t30 H =>
  S188_16 call t0 t1 t2 t22 t0 t27 t30 H) (S188_16 call t0 t1 t2 t22 t0 t27 U H))
noncomputable def S188 : Ff := ⟨fun call l H => argA3 (fun t0 t1 t2 => S188_17 call t0 t1 t2 H) l⟩
/- (*gantline/parse.parser).next -/
noncomputable def S190_0 (_ : CallFn) (t2 t3 : AV) (H : AHeap) : R :=
  ldK (.some 3) H t3 fun t24 H =>
  stK 3 H t2 t24 fun _ H =>
  ob (allM (fun o => o) [aLoad (.some 3) H t2]) fun vs => some (resV vs, H)
noncomputable def S190_1 (call : CallFn) (t0 : AV) (H : AHeap) : R :=
  pNew [(.int .i64 (.ofNat 0)), (.str []), (.int .i64 (.ofNat 0))] H fun t2 H =>
  pC call 62 [t0] H fun t5 H =>
  pNew [(.int .i64 (.ofNat 0)), (.str []), (.int .i64 (.ofNat 0))] H fun t3 H =>
  stK 3 H t3 t5 fun _ H =>
  pO (aNil t0) H fun t7 H =>
  pFa 1 t7 H fun t8 H =>
  ldK .none H t8 fun t9 H =>
  pO (aNil t0) H fun t11 H =>
  pFa 0 t11 H fun t12 H =>
  ldK .none H t12 fun t13 H =>
  pO (aLen .sl H t13) H fun t14 H =>
  pSub t14 (.int .i64 (.ofNat 1)) H fun t15 H =>
  pLss t9 t15 H fun t16 H =>
  onBool t16 (pO (aNil t0) H fun t18 H =>
  pFa 1 t18 H fun t19 H =>
  ldK .none H t19 fun t20 H =>
  pAdd t20 (.int .i64 (.ofNat 1)) H fun t21 H =>
  pO (aNil t0) H fun t22 H =>
  pFa 1 t22 H fun t23 H =>
  stK 1 H t23 t21 fun _ H =>
  S190_0 call t2 t3 H) (S190_0 call t2 t3 H)
noncomputable def S190 : Ff := ⟨fun call l H => argA1 (fun t0 => S190_1 call t0 H) l⟩
/- slices.Contains[[]string,string] -/
noncomputable def S191_0 (call : CallFn) (t0 t1 : AV) (H : AHeap) : R :=
  pC call 305 [t0, t1] H fun t7 H =>
  pGeq t7 (.int .i64 (.ofNat 0)) H fun t8 H =>
  some (t8, H)
noncomputable def S191 : Ff := ⟨fun call l H => argA2 (fun t0 t1 => S191_0 call t0 t1 H) l⟩
/- (*gantline/parse.parser).many -/
noncomputable def S193_0 (call : CallFn) (t0 t5 : AV) (H : AHeap) : R :=
  pC call 125 [t0, (.str [41])] H fun _ H =>
  some (t5, H)
noncomputable def S193_2 (call : CallFn) (q0 : AV → AV → AV → AHeap → R) (t0 t1 t5 t11 t20 : AV) (H : AHeap) : R :=
  pPick t11 t20 (.bool false) H fun t21 H =>
  onBool t21 (pV call t1 [] H fun t24 H =>
  pN (aBsl 4 1 [(.str []), (.str []), (.int .i64 (.ofNat 0)), .nilsl] [(0, 4, t24)]) H fun t25 H =>
  pW (aApp 4 64 H t5 t25) fun t26 H =>
  pC call 123 [t0, (.str [44])] H fun t28 H =>
  pO (aUn .not t28) H fun t29 H =>
  onBool t29 (S193_0 call t0 t26 H) (q0 t0 t1 t26 H)) (S193_0 call t0 t5 H)
noncomputable def S193_3 (call : CallFn) (q0 : AV → AV → AV → AHeap → R) (t0 t1 t5 t11 t15 t19 : AV) (H : AHeap) : R :=
  guardA t11 true (pPick t15 (.bool true) t19 H fun t20 H =>
  S193_2 call q0 t0 t1 t5 t11 t20 H) (S193_2 call q0 t0 t1 t5 t11 U H)
noncomputable def S193_4 (call : CallFn) (q0 : AV → AV → AV → AHeap → R) (t0 t1 t5 t11 t15 : AV) (H : AHeap) : R :=
  guardA t15 false (pN (aBsl 1 1 [(.str [])] [(0, 1, (.str [41]))]) H fun t17 H =>
  pC call 126 [t0, t17] H fun t18 H =>
  pO (aUn .not t18) H fun t19 H =>
  S193_3 call q0 t0 t1 t5 t11 t15 t19 H) (S193_3 call q0 t0 t1 t5 t11 t15 U H)
noncomputable def S193_1 (call : CallFn) (n : Nat) : AV → AV → AV → AHeap → R :=
  Nat.rec (motive := fun _ => AV → AV → AV → AHeap → R) (fun _ _ _ _ => none) (fun _ q0 t0 t1 t5 H => pO (aNil t0) H fun t7 H =>
  pFa 3 t7 H fun t8 H =>
  ldK .none H t8 fun t9 H =>
  pEql t9 (.int .i64 (.ofNat 0)) H fun t10 H =>
  guardA t10 true (pO (aLen .sl H t5) H fun t13 H =>
  pGtr t13 (.int .i64 (.ofNat 0)) H fun t14 H =>
  S193_4 call q0 t0 t1 t5 t10 t14 H) (S193_4 call q0 t0 t1 t5 t10 U H)) n
noncomputable def S193 : Ff := ⟨fun call l H => argA2 (fun t0 t1 => S193_1 call 1000000 t0 t1 .nilsl H) l⟩
/- (*gantline/parse.parser).result -/
noncomputable def S195_0 (call : CallFn) (t0 t2 t7 t10 : AV) (H : AHeap) : R :=
  pPick t7 (.bool true) t10 H fun t11 H =>
  onBool t11 (pC call 192 [t0] H fun t13 H =>
  stK 4 H t2 t13 fun _ H =>
  ob (allM (fun o => o) [aLoad (.some 4) H t2]) fun vs => some (resV vs, H)) (pC call 61 [t0, (.str [110, 111, 110, 101])] H fun t15 H =>
  stK 4 H t2 t15 fun _ H =>
  ob (allM (fun o => o) [aLoad (.some 4) H t2]) fun vs => some (resV vs, H))
noncomputable def S195_1 (call : CallFn) (t0 : AV) (H : AHeap) : R :=
  pNew [(.str []), (.str []), (.int .i64 (.ofNat 0)), .nilsl] H fun t2 H =>
  pC call 62 [t0] H fun t4 H =>
  pO (aFld 0 .none t4) H fun t5 H =>
  pEql t5 (.int .i64 (.ofNat 1)) H fun t6 H =>
  guardA t6 false (pN (aBsl 1 5 [(.str [])] [(0, 1, (.str [105, 110, 116])), (1, 1, (.str [98, 111, 111, 108])), (2, 1, (.str [91])), (3, 1, (.str [99, 104, 97, 110])), (4, 1, (.str [102, 117, 110, 99]))]) H fun t9 H =>
  pC call 126 [t0, t9] H fun t10 H =>
  S195_0 call t0 t2 t6 t10 H) (S195_0 call t0 t2 t6 U H)
noncomputable def S195 : Ff := ⟨fun call l H => argA1 (fun t0 => S195_1 call t0 H) l⟩
/- (*gantline/parse.parser).block -/
noncomputable def S196_0 (call : CallFn) (t0 t2 t3 t10000 : AV) (H : AHeap) : R :=
  pC call 125 [t0, (.str [125])] H fun _ H =>
  ldK (.some 4) H t3 fun t31 H =>
  stK 4 H t2 t31 fun _ H =>
  pO (aNil t10000) H fun t20003 H =>
  pFa 2 t20003 H fun t20004 H =>
  ldK .none H t20004 fun t20005 H =>
  pSub t20005 (.int .i64 (.ofNat 1)) H fun t20006 H =>
  pO (aNil t10000) H fun t20007 H =>
  pFa 2 t20007 H fun t20008 H =>
  stK 1 H t20008 t20006 fun _ H =>
  ob (allM (fun o => o) [aLoad (.some 4) H t2]) fun vs => some (resV vs, H)
noncomputable def S196_2 (call : CallFn) (q0 : AV → AV → AV → AV → AHeap → R) (t0 t2 t3 t16 t20 t10000 : AV) (H : AHeap) : R :=
  pPick t16 t20 (.bool false) H fun t21 H =>
  onBool t21 (pFa 3 t3 H fun t22 H =>
  ldK .none H t22 fun t23 H =>
  pC call 308 [t0] H fun t25 H =>
  andR (andB (ckV (aLoad .none H t22) t23) true) (
  pN (aBsl 4 1 [(.str []), (.str []), (.int .i64 (.ofNat 0)), .nilsl] [(0, 4, t25)]) H fun t26 H =>
  pW (aApp 4 64 H t23 t26) fun t27 H =>
  pFa 3 t3 H fun t28 H =>
  stK 1 H t28 t27 fun _ H =>
  q0 t0 t2 t3 t10000 H)) (S196_0 call t0 t2 t3 t10000 H)
noncomputable def S196_1 (call : CallFn) (n : Nat) : AV → AV → AV → AV → AHeap → R :=
  Nat.rec (motive := fun _ => AV → AV → AV → AV → AHeap → R) (fun _ _ _ _ _ => none) (fun _ q0 t0 t2 t3 t10000 H => pO (aNil t0) H fun t12 H =>
  pFa 3 t12 H fun t13 H =>
  ldK .none H t13 fun t14 H =>
  pEql t14 (.int .i64 (.ofNat 0)) H fun t15 H =>
  guardA t15 true (pN (aBsl 1 1 [(.str [])] [(0, 1, (.str [125]))]) H fun t18 H =>
  pC call 126 [t0, t18] H fun t19 H =>
  pO (aUn .not t19) H fun t20 H =>
  S196_2 call q0 t0 t2 t3 t15 t20 t10000 H) (S196_2 call q0 t0 t2 t3 t15 U t10000 H)) n
noncomputable def S196_3 (call : CallFn) (t0 t2 t10000 : AV) (H : AHeap) : R :=
  pC call 61 [t0, (.str [98, 108, 111, 99, 107])] H fun t8 H =>
  pNew [(.str []), (.str []), (.int .i64 (.ofNat 0)), .nilsl] H fun t3 H =>
  stK 4 H t3 t8 fun _ H =>
  pC call 125 [t0, (.str [123])] H fun _ H =>
  S196_1 call 1000000 t0 t2 t3 t10000 H
noncomputable def S196_4 (call : CallFn) (t0 : AV) (H : AHeap) : R :=
  pNew [(.str []), (.str []), (.int .i64 (.ofNat 0)), .nilsl] H fun t2 H =>
  pC call 306 [t0] H fun _ H =>
  S196_3 call t0 t2 t0 H
noncomputable def S196 : Ff := ⟨fun call l H => argA1 (fun t0 => S196_4 call t0 H) l⟩
/- strings.CutPrefix -/
noncomputable def S197_0 (call : CallFn) (t0 t1 : AV) (H : AHeap) : R :=
  pC call 309 [t0, t1] H fun t8 H =>
  pExt t8 0 H fun t9 H =>
  pExt t8 1 H fun t10 H =>
  some (.tup [t9, t10], H)
noncomputable def S197 : Ff := ⟨fun call l H => argA2 (fun t0 t1 => S197_0 call t0 t1 H) l⟩
/- (*gantline/check.checker).expr -/
noncomputable def S199_0 (call : CallFn) (t3 t4 t5 t34 t40 t45 : AV) (H : AHeap) : R :=
  pPick t40 t45 (.bool false) H fun t46 H =>
  ldK (.some 4) H t3 fun t47 H =>
  pC call 25 [t34, t46, t47] H fun _ H =>
  pIa 4 t5 (.int .i64 (.ofNat 0)) H fun t50 H =>
  ldK (.some 4) H t50 fun t51 H =>
  stK 4 H t4 t51 fun _ H =>
  ob (allM (fun o => o) [aLoad (.some 4) H t4]) fun vs => some (resV vs, H)
noncomputable def S199_1 (call : CallFn) (t3 t4 t5 t34 t40 t44 : AV) (H : AHeap) : R :=
  guardA t40 true (pNeq t44 (.str [98, 111, 111, 108]) H fun t45 H =>
  S199_0 call t3 t4 t5 t34 t40 t45 H) (S199_0 call t3 t4 t5 t34 t40 U H)
noncomputable def S199_2 (call : CallFn) (t3 t4 t5 t34 t40 t43 : AV) (H : AHeap) : R :=
  guardA t40 true (ldK .none H t43 fun t44 H =>
  S199_1 call t3 t4 t5 t34 t40 t44 H) (S199_1 call t3 t4 t5 t34 t40 U H)
noncomputable def S199_3 (call : CallFn) (t3 t4 t5 t34 t40 t42 : AV) (H : AHeap) : R :=
  guardA t40 true (pFa 0 t42 H fun t43 H =>
  S199_2 call t3 t4 t5 t34 t40 t43 H) (S199_2 call t3 t4 t5 t34 t40 U H)
noncomputable def S199_4 (call : CallFn) (t3 t4 t5 t34 t40 t41 : AV) (H : AHeap) : R :=
  guardA t40 true (pIa 4 t41 (.int .i64 (.ofNat 0)) H fun t42 H =>
  S199_3 call t3 t4 t5 t34 t40 t42 H) (S199_3 call t3 t4 t5 t34 t40 U H)
noncomputable def S199_5 (call : CallFn) (t3 t4 t7 t74 t83 t86 t88 : AV) (H : AHeap) : R :=
  andR (andB (ckV (aLoad (.some 4) H t3) t88) true) (
  pPick t83 t86 (.bool false) H fun t87 H =>
  pC call 25 [t74, t87, t88] H fun _ H =>
  ldK (.some 4) H t7 fun t90 H =>
  stK 4 H t4 t90 fun _ H =>
  ob (allM (fun o => o) [aLoad (.some 4) H t4]) fun vs => some (resV vs, H))
noncomputable def S199_6 (call : CallFn) (t3 t4 t7 t74 t83 t84 t85 : AV) (H : AHeap) : R :=
  ldK (.some 4) H t3 fun t88 H =>
  guardA t83 true (pC call 200 [t84, t85] H fun t86 H =>
  S199_5 call t3 t4 t7 t74 t83 t86 t88 H) (S199_5 call t3 t4 t7 t74 t83 U t88 H)
noncomputable def S199_7 (call : CallFn) (t3 t4 t7 t74 t83 t84 : AV) (H : AHeap) : R :=
  guardA t83 true (ldK (.some 4) H t7 fun t85 H =>
  S199_6 call t3 t4 t7 t74 t83 t84 t85 H) (S199_6 call t3 t4 t7 t74 t83 t84 U H)
noncomputable def S199_8 (call : CallFn) (t3 t4 t6 t7 t74 t78 t81 : AV) (H : AHeap) : R :=
  pPick t78 (.bool true) t81 H fun t82 H =>
  guardA t82 true (ldK (.some 4) H t6 fun t84 H =>
  S199_7 call t3 t4 t7 t74 t82 t84 H) (S199_7 call t3 t4 t7 t74 t82 U H)
noncomputable def S199_9 (call : CallFn) (t3 t4 t6 t7 t74 t78 t80 : AV) (H : AHeap) : R :=
  guardA t78 false (pEql t80 (.str [33]) H fun t81 H =>
  S199_8 call t3 t4 t6 t7 t74 t78 t81 H) (S199_8 call t3 t4 t6 t7 t74 t78 U H)
noncomputable def S199_10 (call : CallFn) (t3 t4 t6 t7 t74 t78 t79 : AV) (H : AHeap) : R :=
  guardA t78 false (ldK .none H t79 fun t80 H =>
  S199_9 call t3 t4 t6 t7 t74 t78 t80 H) (S199_9 call t3 t4 t6 t7 t74 t78 U H)
noncomputable def S199_11 (call : CallFn) (t0 t3 t4 t6 t7 : AV) (H : AHeap) : R :=
  pFa 1 t3 H fun t75 H =>
  ldK .none H t75 fun t76 H =>
  pEql t76 (.str [45]) H fun t77 H =>
  guardA t77 false (pFa 1 t3 H fun t79 H =>
  S199_10 call t3 t4 t6 t7 t0 t77 t79 H) (S199_10 call t3 t4 t6 t7 t0 t77 U H)
noncomputable def S199_12 (call : CallFn) (t0 t3 t4 t5 t13 t159 t165 t170 : AV) (H : AHeap) : R :=
  pPick t165 (.bool true) t170 H fun t171 H =>
  ldK (.some 4) H t3 fun t172 H =>
  pC call 25 [t159, t171, t172] H fun _ H =>
  pFa 0 t13 H fun t175 H =>
  ldK .none H t175 fun t176 H =>
  pEql t176 (.str [105, 110, 116]) H fun t177 H =>
  pIa 4 t5 (.int .i64 (.ofNat 1)) H fun t179 H =>
  ldK (.some 4) H t179 fun t180 H =>
  pC call 25 [t0, t177, t180] H fun _ H =>
  pIa 4 t5 (.int .i64 (.ofNat 0)) H fun t183 H =>
  ldK (.some 4) H t183 fun t184 H =>
  stK 4 H t4 t184 fun _ H =>
  ob (allM (fun o => o) [aLoad (.some 4) H t4]) fun vs => some (resV vs, H)
noncomputable def S199_13 (call : CallFn) (t0 t3 t4 t5 t13 t159 t165 t169 : AV) (H : AHeap) : R :=
  guardA t165 false (pEql t169 (.str [99, 104, 97, 110]) H fun t170 H =>
  S199_12 call t0 t3 t4 t5 t13 t159 t165 t170 H) (S199_12 call t0 t3 t4 t5 t13 t159 t165 U H)
noncomputable def S199_14 (call : CallFn) (t0 t3 t4 t5 t13 t159 t165 t168 : AV) (H : AHeap) : R :=
  guardA t165 false (ldK .none H t168 fun t169 H =>
  S199_13 call t0 t3 t4 t5 t13 t159 t165 t169 H) (S199_13 call t0 t3 t4 t5 t13 t159 t165 U H)
noncomputable def S199_15 (call : CallFn) (t0 t3 t4 t5 t13 t159 t165 t167 : AV) (H : AHeap) : R :=
  guardA t165 false (pFa 0 t167 H fun t168 H =>
  S199_14 call t0 t3 t4 t5 t13 t159 t165 t168 H) (S199_14 call t0 t3 t4 t5 t13 t159 t165 U H)
noncomputable def S199_16 (call : CallFn) (t0 t3 t4 t5 t13 t159 t165 t166 : AV) (H : AHeap) : R :=
  guardA t165 false (pIa 4 t166 (.int .i64 (.ofNat 0)) H fun t167 H =>
  S199_15 call t0 t3 t4 t5 t13 t159 t165 t167 H) (S199_15 call t0 t3 t4 t5 t13 t159 t165 U H)
noncomputable def S199_17 (call : CallFn) (t0 t3 t4 t5 t24 t28 : AV) (H : AHeap) : R :=
  onBool t28 (pC call 310 [(.str [98, 111, 111, 108])] H fun t31 H =>
  stK 4 H t4 t31 fun _ H =>
  ob (allM (fun o => o) [aLoad (.some 4) H t4]) fun vs => some (resV vs, H)) (pEql t24 (.str [110, 105, 108]) H fun t33 H =>
  onBool t33 (pIa 4 t5 (.int .i64 (.ofNat 0)) H fun t36 H =>
  pFa 0 t36 H fun t37 H =>
  ldK .none H t37 fun t38 H =>
  pNeq t38 (.str [105, 110, 116]) H fun t39 H =>
  guardA t39 true (S199_4 call t3 t4 t5 t0 t39 t5 H) (S199_4 call t3 t4 t5 t0 t39 U H)) (pEql t24 (.str [110, 97, 109, 101]) H fun t53 H =>
  onBool t53 (ldK (.some 4) H t3 fun t55 H =>
  pC call 311 [t0, t55] H fun t56 H =>
  stK 4 H t4 t56 fun _ H =>
  ob (allM (fun o => o) [aLoad (.some 4) H t4]) fun vs => some (resV vs, H)) (pEql t24 (.str [98, 105, 110, 97, 114, 121]) H fun t58 H =>
  onBool t58 (ldK (.some 4) H t3 fun t60 H =>
  pC call 312 [t0, t60] H fun t61 H =>
  stK 4 H t4 t61 fun _ H =>
  ob (allM (fun o => o) [aLoad (.some 4) H t4]) fun vs => some (resV vs, H)) (pEql t24 (.str [117, 110, 97, 114, 121]) H fun t63 H =>
  onBool t63 (pIa 4 t5 (.int .i64 (.ofNat 0)) H fun t66 H =>
  ldK (.some 4) H t66 fun t67 H =>
  pC call 199 [t0, t67] H fun t68 H =>
  pNew [(.str []), (.str []), (.int .i64 (.ofNat 0)), .nilsl] H fun t6 H =>
  stK 4 H t6 t68 fun _ H =>
  pC call 310 [(.str [105, 110, 116])] H fun t69 H =>
  pNew [(.str []), (.str []), (.int .i64 (.ofNat 0)), .nilsl] H fun t7 H =>
  stK 4 H t7 t69 fun _ H =>
  pFa 1 t3 H fun t70 H =>
  ldK .none H t70 fun t71 H =>
  pEql t71 (.str [33]) H fun t72 H =>
  onBool t72 (pC call 310 [(.str [98, 111, 111, 108])] H fun t73 H =>
  stK 4 H t7 t73 fun _ H =>
  S199_11 call t0 t3 t4 t6 t7 H) (S199_11 call t0 t3 t4 t6 t7 H)) (pEql t24 (.str [99, 97, 108, 108]) H fun t92 H =>
  onBool t92 (ldK (.some 4) H t3 fun t94 H =>
  pC call 204 [t0, t94] H fun t95 H =>
  pNew [(.str []), (.str []), (.int .i64 (.ofNat 0)), .nilsl] H fun t8 H =>
  stK 4 H t8 t95 fun _ H =>
  pFa 0 t8 H fun t97 H =>
  ldK .none H t97 fun t98 H =>
  pNeq t98 (.str [110, 111, 110, 101]) H fun t99 H =>
  ldK (.some 4) H t3 fun t100 H =>
  pC call 25 [t0, t99, t100] H fun _ H =>
  ldK (.some 4) H t8 fun t102 H =>
  stK 4 H t4 t102 fun _ H =>
  ob (allM (fun o => o) [aLoad (.some 4) H t4]) fun vs => some (resV vs, H)) (pEql t24 (.str [105, 110, 100, 101, 120]) H fun t104 H =>
  onBool t104 (pIa 4 t5 (.int .i64 (.ofNat 0)) H fun t107 H =>
  ldK (.some 4) H t107 fun t108 H =>
  pIa 4 t5 (.int .i64 (.ofNat 1)) H fun t112 H =>
  ldK (.some 4) H t112 fun t113 H =>
  pNew [(.str []), (.str []), (.int .i64 (.ofNat 0)), .nilsl] H fun t9 H =>
  pNew [(.str []), (.str []), (.int .i64 (.ofNat 0)), .nilsl] H fun t10 H =>
  pC call 199 [t0, t108] H fun t109 H =>
  andR (andB (ckV (aLoad (.some 4) H t112) t113) true) (
  pC call 199 [t0, t113] H fun t114 H =>
  stK 4 H t9 t109 fun _ H =>
  stK 4 H t10 t114 fun _ H =>
  pFa 0 t9 H fun t116 H =>
  ldK .none H t116 fun t117 H =>
  pEql t117 (.str [108, 105, 115, 116]) H fun t118 H =>
  ldK (.some 4) H t3 fun t119 H =>
  pC call 25 [t0, t118, t119] H fun _ H =>
  pFa 0 t10 H fun t122 H =>
  ldK .none H t122 fun t123 H =>
  pEql t123 (.str [105, 110, 116]) H fun t124 H =>
  pIa 4 t5 (.int .i64 (.ofNat 1)) H fun t126 H =>
  ldK (.some 4) H t126 fun t127 H =>
  pC call 25 [t0, t124, t127] H fun _ H =>
  ldK (.some 4) H t9 fun t129 H =>
  pC call 313 [t129] H fun t130 H =>
  stK 4 H t4 t130 fun _ H =>
  ob (allM (fun o => o) [aLoad (.some 4) H t4]) fun vs => some (resV vs, H))) (pEql t24 (.str [100, 111, 116]) H fun t132 H =>
  onBool t132 (ldK (.some 4) H t3 fun t134 H =>
  pC call 314 [t0, t134] H fun t135 H =>
  stK 4 H t4 t135 fun _ H =>
  ob (allM (fun o => o) [aLoad (.some 4) H t4]) fun vs => some (resV vs, H)) (pEql t24 (.str [110, 101, 119]) H fun t137 H =>
  onBool t137 (pFa 1 t3 H fun t140 H =>
  ldK .none H t140 fun t141 H =>
  pC call 24 [t0, (.str [115, 116, 114, 117, 99, 116]), t141] H fun t142 H =>
  pExt t142 0 H fun t143 H =>
  pExt t142 1 H fun t144 H =>
  pNew [(.str []), (.str []), (.int .i64 (.ofNat 0)), .nilsl] H fun t11 H =>
  stK 4 H t11 t143 fun _ H =>
  ldK (.some 4) H t3 fun t147 H =>
  pC call 25 [t0, t144, t147] H fun _ H =>
  pFa 1 t3 H fun t149 H =>
  ldK .none H t149 fun t150 H =>
  pO (someAgg (aFill [(.str []), (.str []), (.int .i64 (.ofNat 0)), .nilsl] [(0, 1, (.str [110, 97, 109, 101, 100])), (1, 1, t150)])) H fun t151 H =>
  stK 4 H t4 t151 fun _ H =>
  ob (allM (fun o => o) [aLoad (.some 4) H t4]) fun vs => some (resV vs, H)) (pEql t24 (.str [109, 97, 107, 101]) H fun t153 H =>
  onBool t153 (pIa 4 t5 (.int .i64 (.ofNat 1)) H fun t156 H =>
  ldK (.some 4) H t156 fun t157 H =>
  pC call 199 [t0, t157] H fun t158 H =>
  pNew [(.str []), (.str []), (.int .i64 (.ofNat 0)), .nilsl] H fun t13 H =>
  stK 4 H t13 t158 fun _ H =>
  pIa 4 t5 (.int .i64 (.ofNat 0)) H fun t161 H =>
  pFa 0 t161 H fun t162 H =>
  ldK .none H t162 fun t163 H =>
  pEql t163 (.str [108, 105, 115, 116]) H fun t164 H =>
  guardA t164 false (S199_16 call t0 t3 t4 t5 t13 t0 t164 t5 H) (S199_16 call t0 t3 t4 t5 t13 t0 t164 U H)) (pEql t24 (.str [108, 101, 110]) H fun t186 H =>
  onBool t186 (pIa 4 t5 (.int .i64 (.ofNat 0)) H fun t189 H =>
  ldK (.some 4) H t189 fun t190 H =>
  pC call 199 [t0, t190] H fun t191 H =>
  pNew [(.str []), (.str []), (.int .i64 (.ofNat 0)), .nilsl] H fun t14 H =>
  stK 4 H t14 t191 fun _ H =>
  pFa 0 t14 H fun t193 H =>
  ldK .none H t193 fun t194 H =>
  pEql t194 (.str [108, 105, 115, 116]) H fun t195 H =>
  ldK (.some 4) H t3 fun t196 H =>
  pC call 25 [t0, t195, t196] H fun _ H =>
  pC call 310 [(.str [105, 110, 116])] H fun t198 H =>
  stK 4 H t4 t198 fun _ H =>
  ob (allM (fun o => o) [aLoad (.some 4) H t4]) fun vs => some (resV vs, H)) (pEql t24 (.str [114, 101, 99, 118]) H fun t200 H =>
  onBool t200 (pIa 4 t5 (.int .i64 (.ofNat 0)) H fun t203 H =>
  ldK (.some 4) H t203 fun t204 H =>
  pC call 199 [t0, t204] H fun t205 H =>
  pNew [(.str []), (.str []), (.int .i64 (.ofNat 0)), .nilsl] H fun t15 H =>
  stK 4 H t15 t205 fun _ H =>
  pFa 0 t15 H fun t207 H =>
  ldK .none H t207 fun t208 H =>
  pEql t208 (.str [99, 104, 97, 110]) H fun t209 H =>
  ldK (.some 4) H t3 fun t210 H =>
  pC call 25 [t0, t209, t210] H fun _ H =>
  ldK (.some 4) H t15 fun t212 H =>
  pC call 313 [t212] H fun t213 H =>
  stK 4 H t4 t213 fun _ H =>
  ob (allM (fun o => o) [aLoad (.some 4) H t4]) fun vs => some (resV vs, H)) (ldK (.some 4) H t3 fun t215 H =>
  pC call 315 [t0, t215] H fun t216 H =>
  stK 4 H t4 t216 fun _ H =>
  ob (allM (fun o => o) [aLoad (.some 4) H t4]) fun vs => some (resV vs, H)))))))))))))
noncomputable def S199_18 (call : CallFn) (t0 t1 : AV) (H : AHeap) : R :=
  pBox t1 H fun t3 H =>
  pNew [(.str []), (.str []), (.int .i64 (.ofNat 0)), .nilsl] H fun t4 H =>
  pO (aNil t0) H fun t17 H =>
  pFa 4 t17 H fun t18 H =>
  ldK .none H t18 fun t19 H =>
  onBool t19 (pO (someAgg (aFill [(.str []), (.str []), (.int .i64 (.ofNat 0)), .nilsl] [])) H fun t20 H =>
  stK 4 H t4 t20 fun _ H =>
  ob (allM (fun o => o) [aLoad (.some 4) H t4]) fun vs => some (resV vs, H)) (pFa 3 t3 H fun t21 H =>
  ldK .none H t21 fun t22 H =>
  pFa 0 t3 H fun t23 H =>
  ldK .none H t23 fun t24 H =>
  pEql t24 (.str [110, 117, 109, 98, 101, 114]) H fun t26 H =>
  onBool t26 (pC call 310 [(.str [105, 110, 116])] H fun t27 H =>
  stK 4 H t4 t27 fun _ H =>
  ob (allM (fun o => o) [aLoad (.some 4) H t4]) fun vs => some (resV vs, H)) (pEql t24 (.str [116, 114, 117, 101]) H fun t29 H =>
  onBool t29 (S199_17 call t0 t3 t4 t22 t24 t29 H) (pEql t24 (.str [102, 97, 108, 115, 101]) H fun t30 H =>
  S199_17 call t0 t3 t4 t22 t24 t30 H)))
noncomputable def S199 : Ff := ⟨fun call l H => argA2 (fun t0 t1 => S199_18 call t0 t1 H) l⟩
/- (*gantline/check.checker).is -/
noncomputable def S203_0 (call : CallFn) (t0 t1 t2 : AV) (H : AHeap) : R :=
  pBox t1 H fun t4 H =>
  pNew [(.str []), (.str []), (.int .i64 (.ofNat 0)), .nilsl] H fun t6 H =>
  ldK (.some 4) H t4 fun t9 H =>
  pC call 199 [t0, t9] H fun t10 H =>
  pNew [(.str []), (.str []), (.int .i64 (.ofNat 0)), .nilsl] H fun t7 H =>
  stK 4 H t7 t10 fun _ H =>
  pFa 0 t7 H fun t12 H =>
  ldK .none H t12 fun t13 H =>
  pEql t13 t2 H fun t15 H =>
  ldK (.some 4) H t4 fun t16 H =>
  pC call 25 [t0, t15, t16] H fun _ H =>
  ldK (.some 4) H t7 fun t18 H =>
  stK 4 H t6 t18 fun _ H =>
  ob (allM (fun o => o) [aLoad (.some 4) H t6]) fun vs => some (resV vs, H)
noncomputable def S203 : Ff := ⟨fun call l H => argA3 (fun t0 t1 t2 => S203_0 call t0 t1 t2 H) l⟩
/- (*gantline/lower.builder).into -/
noncomputable def S209_0 (call : CallFn) (t0 t2 t7 : AV) (H : AHeap) : R :=
  pO (aNil t0) H fun t53 H =>
  pFa 0 t53 H fun t54 H =>
  ldK .none H t54 fun t55 H =>
  pC call 321 [t55, t7] H fun t57 H =>
  pO (someAgg (aFill [(.int .i64 (.ofNat 0)), (.int .i64 (.ofNat 0)), (.int .i64 (.ofNat 0)), (.int .i64 (.ofNat 0)), (.int .i64 (.ofNat 0))] [(0, 1, (.int .i64 (.ofNat 0))), (1, 1, t2), (2, 1, t57)])) H fun t58 H =>
  pC call 78 [t0, t58] H fun _ H =>
  some (.tup [], H)
noncomputable def S209_1 (call : CallFn) (t0 t2 t6 t14 t15 t16 t17 : AV) (H : AHeap) : R :=
  pO (aNil t0) H fun t173 H =>
  pFa 0 t173 H fun t174 H =>
  ldK .none H t174 fun t175 H =>
  pIa 4 t6 (.int .i64 (.ofNat 0)) H fun t178 H =>
  pFa 3 t178 H fun t179 H =>
  ldK .none H t179 fun t180 H =>
  pIa 4 t180 (.int .i64 (.ofNat 0)) H fun t181 H =>
  ldK (.some 4) H t181 fun t182 H =>
  pC call 328 [t175, t17, t182] H fun t183 H =>
  pO (someAgg (aFill [(.int .i64 (.ofNat 0)), (.int .i64 (.ofNat 0)), (.int .i64 (.ofNat 0)), (.int .i64 (.ofNat 0)), (.int .i64 (.ofNat 0))] [(0, 1, t16), (1, 1, t2), (2, 1, t183), (3, 1, t14)])) H fun t185 H =>
  pC call 78 [t0, t185] H fun _ H =>
  pN (aBsl 1 1 [(.int .i64 (.ofNat 0))] [(0, 1, t15)]) H fun t189 H =>
  pC call 217 [t0, t189] H fun _ H =>
  some (.tup [], H)
noncomputable def S209_2 (call : CallFn) (t0 t2 t4 t6 t25 t44 : AV) (H : AHeap) : R :=
  onBool t44 (pFa 0 t4 H fun t47 H =>
  ldK .none H t47 fun t48 H =>
  pEql t48 (.str [116, 114, 117, 101]) H fun t49 H =>
  onBool t49 (S209_0 call t0 t2 (.int .i64 (.ofNat 1)) H) (S209_0 call t0 t2 (.int .i64 (.ofNat 0)) H)) (pEql t25 (.str [110, 105, 108]) H fun t61 H =>
  onBool t61 (pO (someAgg (aFill [(.int .i64 (.ofNat 0)), (.int .i64 (.ofNat 0)), (.int .i64 (.ofNat 0)), (.int .i64 (.ofNat 0)), (.int .i64 (.ofNat 0))] [(0, 1, (.int .i64 (.ofNat 2))), (1, 1, t2)])) H fun t64 H =>
  pC call 78 [t0, t64] H fun _ H =>
  some (.tup [], H)) (pEql t25 (.str [110, 97, 109, 101]) H fun t67 H =>
  onBool t67 (ldK (.some 4) H t4 fun t69 H =>
  pC call 323 [t0, t69, t2] H fun _ H =>
  some (.tup [], H)) (pEql t25 (.str [117, 110, 97, 114, 121]) H fun t73 H =>
  onBool t73 (ldK (.some 4) H t4 fun t75 H =>
  pC call 324 [t0, t75, t2] H fun _ H =>
  some (.tup [], H)) (pEql t25 (.str [98, 105, 110, 97, 114, 121]) H fun t79 H =>
  onBool t79 (ldK (.some 4) H t4 fun t81 H =>
  pC call 325 [t0, t81, t2] H fun _ H =>
  some (.tup [], H)) (pEql t25 (.str [99, 97, 108, 108]) H fun t85 H =>
  onBool t85 (ldK (.some 4) H t4 fun t87 H =>
  pC call 215 [t0, t87, t2, (.bool false)] H fun _ H =>
  some (.tup [], H)) (pEql t25 (.str [105, 110, 100, 101, 120]) H fun t91 H =>
  onBool t91 (pIa 4 t6 (.int .i64 (.ofNat 0)) H fun t95 H =>
  ldK (.some 4) H t95 fun t96 H =>
  pC call 216 [t0, t96] H fun t97 H =>
  pExt t97 0 H fun t98 H =>
  pExt t97 1 H fun t99 H =>
  pIa 4 t6 (.int .i64 (.ofNat 1)) H fun t103 H =>
  ldK (.some 4) H t103 fun t104 H =>
  pC call 216 [t0, t104] H fun t105 H =>
  pExt t105 0 H fun t106 H =>
  pExt t105 1 H fun t107 H =>
  pO (someAgg (aFill [(.int .i64 (.ofNat 0)), (.int .i64 (.ofNat 0)), (.int .i64 (.ofNat 0)), (.int .i64 (.ofNat 0)), (.int .i64 (.ofNat 0))] [(0, 1, (.int .i64 (.ofNat 30))), (1, 1, t2), (2, 1, t98), (3, 1, t106)])) H fun t112 H =>
  pC call 78 [t0, t112] H fun _ H =>
  pN (aBsl 1 2 [(.int .i64 (.ofNat 0))] [(0, 1, t99), (1, 1, t107)]) H fun t117 H =>
  pC call 217 [t0, t117] H fun _ H =>
  some (.tup [], H)) (pEql t25 (.str [100, 111, 116]) H fun t120 H =>
  onBool t120 (pIa 4 t6 (.int .i64 (.ofNat 0)) H fun t124 H =>
  ldK (.some 4) H t124 fun t125 H =>
  pC call 216 [t0, t125] H fun t126 H =>
  pExt t126 0 H fun t127 H =>
  pExt t126 1 H fun t128 H =>
  ldK (.some 4) H t4 fun t133 H =>
  pC call 326 [t0, t133] H fun t134 H =>
  pO (someAgg (aFill [(.int .i64 (.ofNat 0)), (.int .i64 (.ofNat 0)), (.int .i64 (.ofNat 0)), (.int .i64 (.ofNat 0)), (.int .i64 (.ofNat 0))] [(0, 1, (.int .i64 (.ofNat 27))), (1, 1, t2), (2, 1, t127), (3, 1, t134)])) H fun t135 H =>
  pC call 78 [t0, t135] H fun _ H =>
  pN (aBsl 1 1 [(.int .i64 (.ofNat 0))] [(0, 1, t128)]) H fun t139 H =>
  pC call 217 [t0, t139] H fun _ H =>
  some (.tup [], H)) (pEql t25 (.str [110, 101, 119]) H fun t142 H =>
  onBool t142 (pO (aNil t0) H fun t146 H =>
  pFa 0 t146 H fun t147 H =>
  ldK .none H t147 fun t148 H =>
  pFa 1 t4 H fun t149 H =>
  ldK .none H t149 fun t150 H =>
  pC call 327 [t148, t150] H fun t151 H =>
  pO (someAgg (aFill [(.int .i64 (.ofNat 0)), (.int .i64 (.ofNat 0)), (.int .i64 (.ofNat 0)), (.int .i64 (.ofNat 0)), (.int .i64 (.ofNat 0))] [(0, 1, (.int .i64 (.ofNat 25))), (1, 1, t2), (2, 1, t151)])) H fun t152 H =>
  pC call 78 [t0, t152] H fun _ H =>
  some (.tup [], H)) (pEql t25 (.str [109, 97, 107, 101]) H fun t155 H =>
  onBool t155 (pIa 4 t6 (.int .i64 (.ofNat 1)) H fun t159 H =>
  ldK (.some 4) H t159 fun t160 H =>
  pC call 216 [t0, t160] H fun t161 H =>
  pExt t161 0 H fun t162 H =>
  pExt t161 1 H fun t163 H =>
  pIa 4 t6 (.int .i64 (.ofNat 0)) H fun t165 H =>
  pFa 0 t165 H fun t166 H =>
  ldK .none H t166 fun t167 H =>
  pEql t167 (.str [99, 104, 97, 110]) H fun t168 H =>
  onBool t168 (S209_1 call t0 t2 t6 t162 t163 (.int .i64 (.ofNat 37)) (.int .i64 (.ofNat 3)) H) (S209_1 call t0 t2 t6 t162 t163 (.int .i64 (.ofNat 26)) (.int .i64 (.ofNat 1)) H)) (pEql t25 (.str [108, 101, 110]) H fun t192 H =>
  onBool t192 (pIa 4 t6 (.int .i64 (.ofNat 0)) H fun t196 H =>
  ldK (.some 4) H t196 fun t197 H =>
  pC call 216 [t0, t197] H fun t198 H =>
  pExt t198 0 H fun t199 H =>
  pExt t198 1 H fun t200 H =>
  pO (someAgg (aFill [(.int .i64 (.ofNat 0)), (.int .i64 (.ofNat 0)), (.int .i64 (.ofNat 0)), (.int .i64 (.ofNat 0)), (.int .i64 (.ofNat 0))] [(0, 1, (.int .i64 (.ofNat 33))), (1, 1, t2), (2, 1, t199)])) H fun t204 H =>
  pC call 78 [t0, t204] H fun _ H =>
  pN (aBsl 1 1 [(.int .i64 (.ofNat 0))] [(0, 1, t200)]) H fun t208 H =>
  pC call 217 [t0, t208] H fun _ H =>
  some (.tup [], H)) (pEql t25 (.str [114, 101, 99, 118]) H fun t211 H =>
  onBool t211 (pIa 4 t6 (.int .i64 (.ofNat 0)) H fun t215 H =>
  ldK (.some 4) H t215 fun t216 H =>
  pC call 216 [t0, t216] H fun t217 H =>
  pExt t217 0 H fun t218 H =>
  pExt t217 1 H fun t219 H =>
  pO (someAgg (aFill [(.int .i64 (.ofNat 0)), (.int .i64 (.ofNat 0)), (.int .i64 (.ofNat 0)), (.int .i64 (.ofNat 0)), (.int .i64 (.ofNat 0))] [(0, 1, (.int .i64 (.ofNat 39))), (1, 1, t2), (2, 1, t218), (3, 1, (.int .i64 (.negSucc 0)))])) H fun t223 H =>
  pC call 78 [t0, t223] H fun _ H =>
  pN (aBsl 1 1 [(.int .i64 (.ofNat 0))] [(0, 1, t219)]) H fun t227 H =>
  pC call 217 [t0, t227] H fun _ H =>
  some (.tup [], H)) (ldK (.some 4) H t4 fun t27 H =>
  pC call 329 [t0, t27, t2] H fun _ H =>
  some (.tup [], H)))))))))))))
noncomputable def S209_3 (call : CallFn) (t0 t1 t2 : AV) (H : AHeap) : R :=
  pBox t1 H fun t4 H =>
  pFa 3 t4 H fun t22 H =>
  ldK .none H t22 fun t23 H =>
  pFa 0 t4 H fun t24 H =>
  ldK .none H t24 fun t25 H =>
  pEql t25 (.str [110, 117, 109, 98, 101, 114]) H fun t31 H =>
  onBool t31 (pO (aNil t0) H fun t35 H =>
  pFa 0 t35 H fun t36 H =>
  ldK .none H t36 fun t37 H =>
  pFa 1 t4 H fun t38 H =>
  ldK .none H t38 fun t39 H =>
  pC call 322 [t39] H fun t40 H =>
  andR (andB (ckV (aLoad .none H t36) t37) true) (
  pC call 321 [t37, t40] H fun t41 H =>
  pO (someAgg (aFill [(.int .i64 (.ofNat 0)), (.int .i64 (.ofNat 0)), (.int .i64 (.ofNat 0)), (.int .i64 (.ofNat 0)), (.int .i64 (.ofNat 0))] [(0, 1, (.int .i64 (.ofNat 0))), (1, 1, t2), (2, 1, t41)])) H fun t42 H =>
  pC call 78 [t0, t42] H fun _ H =>
  some (.tup [], H))) (pEql t25 (.str [116, 114, 117, 101]) H fun t45 H =>
  onBool t45 (S209_2 call t0 t2 t4 t23 t25 t45 H) (pEql t25 (.str [102, 97, 108, 115, 101]) H fun t46 H =>
  S209_2 call t0 t2 t4 t23 t25 t46 H))
noncomputable def S209 : Ff := ⟨fun call l H => argA3 (fun t0 t1 t2 => S209_3 call t0 t1 t2 H) l⟩
/- (*gantline/lower.builder).one -/
noncomputable def S214_0 (call : CallFn) (t0 t1 t2 : AV) (H : AHeap) : R :=
  pBox t2 H fun t5 H =>
  ldK (.some 4) H t5 fun t10 H =>
  pC call 216 [t0, t10] H fun t11 H =>
  pExt t11 0 H fun t12 H =>
  pExt t11 1 H fun t13 H =>
  pO (someAgg (aFill [(.int .i64 (.ofNat 0)), (.int .i64 (.ofNat 0)), (.int .i64 (.ofNat 0)), (.int .i64 (.ofNat 0)), (.int .i64 (.ofNat 0))] [(0, 1, t1), (1, 1, t12)])) H fun t17 H =>
  pC call 78 [t0, t17] H fun _ H =>
  pN (aBsl 1 1 [(.int .i64 (.ofNat 0))] [(0, 1, t13)]) H fun t21 H =>
  pC call 217 [t0, t21] H fun _ H =>
  some (.tup [], H)
noncomputable def S214 : Ff := ⟨fun call l H => argA3 (fun t0 t1 t2 => S214_0 call t0 t1 t2 H) l⟩
/- (*gantline/lower.builder).operand -/
noncomputable def S216_0 (call : CallFn) (t0 t3 : AV) (H : AHeap) : R :=
  ldK (.some 4) H t3 fun t24 H =>
  pC call 335 [t0, t24] H fun t25 H =>
  pC call 73 [t25] H fun t26 H =>
  pC call 75 [t0, t26] H fun t27 H =>
  ldK (.some 4) H t3 fun t29 H =>
  pC call 209 [t0, t29, t27] H fun _ H =>
  some (.tup [t27, t27], H)
noncomputable def S216_1 (call : CallFn) (t0 t1 : AV) (H : AHeap) : R :=
  pBox t1 H fun t3 H =>
  pFa 0 t3 H fun t9 H =>
  ldK .none H t9 fun t10 H =>
  pEql t10 (.str [110, 97, 109, 101]) H fun t11 H =>
  onBool t11 (pFa 1 t3 H fun t14 H =>
  ldK .none H t14 fun t15 H =>
  pC call 330 [t0, t15] H fun t16 H =>
  pExt t16 0 H fun t17 H =>
  pExt t16 1 H fun t18 H =>
  pNew [(.str []), (.str []), (.str []), (.int .i64 (.ofNat 0)), .nilsl, (.int .i64 (.ofNat 0))] H fun t6 H =>
  stK 6 H t6 t17 fun _ H =>
  onBool t18 (pFa 5 t6 H fun t20 H =>
  ldK .none H t20 fun t21 H =>
  some (.tup [t21, (.int .i64 (.negSucc 0))], H)) (S216_0 call t0 t3 H)) (S216_0 call t0 t3 H)
noncomputable def S216 : Ff := ⟨fun call l H => argA2 (fun t0 t1 => S216_1 call t0 t1 H) l⟩
/- (*gantline/lower.builder).free -/
noncomputable def S217_1 (_ : CallFn) (q0 : AV → AV → AV → AV → AHeap → R) (t0 t6 t7 t8 : AV) (H : AHeap) : R :=
  pAdd t8 (.int .i64 (.ofNat 1)) H fun t20 H =>
  q0 t0 t6 t7 t20 H
noncomputable def S217_0 (call : CallFn) (n : Nat) : AV → AV → AV → AV → AHeap → R :=
  Nat.rec (motive := fun _ => AV → AV → AV → AV → AHeap → R) (fun _ _ _ _ _ => none) (fun _ q0 t0 t6 t7 t8 H => pLss t8 t7 H fun t9 H =>
  onBool t9 (pIa 1 t6 t8 H fun t10 H =>
  ldK .none H t10 fun t11 H =>
  pNeq t11 (.int .i64 (.negSucc 0)) H fun t13 H =>
  onBool t13 (pO (aNil t0) H fun t15 H =>
  pFa 3 t15 H fun t16 H =>
  ldK .none H t16 fun t17 H =>
  pIa 1 t17 t11 H fun t19 H =>
  stK 1 H t19 (.bool false) fun _ H =>
  S217_1 call q0 t0 t6 t7 t8 H) (S217_1 call q0 t0 t6 t7 t8 H)) (some (.tup [], H))) n
noncomputable def S217_2 (call : CallFn) (t0 t1 : AV) (H : AHeap) : R :=
  pO (aLen .sl H t1) H fun t7 H =>
  S217_0 call 1000000 t0 t1 t7 (.int .i64 (.ofNat 0)) H
noncomputable def S217 : Ff := ⟨fun call l H => argA2 (fun t0 t1 => S217_2 call t0 t1 H) l⟩
/- gantline/live.Sets$1 -/
noncomputable def S220_0 (_ : CallFn) (n : Nat) : AV → AV → AV → AV → AV → AHeap → R :=
  Nat.rec (motive := fun _ => AV → AV → AV → AV → AV → AHeap → R) (fun _ _ _ _ _ _ => none) (fun _ q0 t3 t6 t64 t65 t66 H => pLss t66 t65 H fun t67 H =>
  onBool t67 (pIa 1 t64 t66 H fun t68 H =>
  ldK .none H t68 fun t69 H =>
  ldK .none H t3 fun t71 H =>
  pIa 1 t71 t69 H fun t73 H =>
  ldK .none H t73 fun t74 H =>
  pOr t6 t74 H fun t75 H =>
  pAdd t66 (.int .i64 (.ofNat 1)) H fun t76 H =>
  q0 t3 t75 t64 t65 t76 H) (some (t6, H))) n
noncomputable def S220_1 (call : CallFn) (t0 t1 t2 t3 t6 : AV) (H : AHeap) : R :=
  ldK (.some 6) H t2 fun t61 H =>
  ldK (.some 7) H t1 fun t62 H =>
  pC call 142 [t61, t62, t0] H fun t64 H =>
  pO (aLen .sl H t64) H fun t65 H =>
  S220_0 call 1000000 t3 t6 t64 t65 (.int .i64 (.ofNat 0)) H
noncomputable def S220_3 (_ : CallFn) (q1 : AV → AV → AV → AV → AV → AV → AHeap → R) (t1 t3 t6 t23 t24 t25 : AV) (H : AHeap) : R :=
  pAdd t25 (.int .i64 (.ofNat 1)) H fun t59 H =>
  q1 t1 t3 t6 t23 t24 t59 H
noncomputable def S220_4 (call : CallFn) (q1 : AV → AV → AV → AV → AV → AV → AHeap → R) (t1 t3 t6 t9 t23 t24 t25 t32 t38 : AV) (H : AHeap) : R :=
  pPick t32 (.bool true) t38 H fun t39 H =>
  onBool t39 (S220_3 call q1 t1 t3 t6 t23 t24 t25 H) (ldK .none H t3 fun t40 H =>
  pFa 3 t9 H fun t41 H =>
  ldK .none H t41 fun t42 H =>
  pIa 1 t40 t42 H fun t43 H =>
  ldK .none H t43 fun t44 H =>
  pFa 0 t9 H fun t45 H =>
  ldK .none H t45 fun t46 H =>
  pEql t46 (.int .i64 (.ofNat 0)) H fun t47 H =>
  onBool t47 (pFa 2 t9 H fun t50 H =>
  ldK .none H t50 fun t51 H =>
  pN (aBsl 1 1 [(.int .i64 (.ofNat 0))] [(0, 1, t51)]) H fun t52 H =>
  pC call 222 [t52] H fun t53 H =>
  pAndN t44 t53 H fun t54 H =>
  pOr t6 t54 H fun t55 H =>
  S220_3 call q1 t1 t3 t55 t23 t24 t25 H) (pOr t6 t44 H fun t58 H =>
  S220_3 call q1 t1 t3 t58 t23 t24 t25 H))
noncomputable def S220_2 (call : CallFn) (n : Nat) : AV → AV → AV → AV → AV → AV → AHeap → R :=
  Nat.rec (motive := fun _ => AV → AV → AV → AV → AV → AV → AHeap → R) (fun _ _ _ _ _ _ _ => none) (fun _ q1 t1 t3 t6 t23 t24 t25 H => pLss t25 t24 H fun t26 H =>
  onBool t26 (pIa 4 t23 t25 H fun t27 H =>
  ldK (.some 4) H t27 fun t28 H =>
  pNew [(.int .i64 (.ofNat 0)), (.int .i64 (.ofNat 0)), (.int .i64 (.ofNat 0)), (.int .i64 (.ofNat 0))] H fun t9 H =>
  stK 4 H t9 t28 fun _ H =>
  pFa 3 t9 H fun t29 H =>
  ldK .none H t29 fun t30 H =>
  pLss t30 (.int .i64 (.ofNat 0)) H fun t31 H =>
  guardA t31 false (pFa 3 t9 H fun t33 H =>
  ldK .none H t33 fun t34 H =>
  pFa 5 t1 H fun t35 H =>
  ldK .none H t35 fun t36 H =>
  pO (aLen .sl H t36) H fun t37 H =>
  pGeq t34 t37 H fun t38 H =>
  S220_4 call q1 t1 t3 t6 t9 t23 t24 t25 t31 t38 H) (S220_4 call q1 t1 t3 t6 t9 t23 t24 t25 t31 U H)) (some (t6, H))) n
noncomputable def S220_5 (call : CallFn) (t0 t1 t2 t3 : AV) (H : AHeap) : R :=
  pFa 5 t1 H fun t13 H =>
  ldK .none H t13 fun t14 H =>
  pIa 5 t14 t0 H fun t16 H =>
  ldK (.some 5) H t16 fun t17 H =>
  pNew [(.int .i64 (.ofNat 0)), (.int .i64 (.ofNat 0)), (.int .i64 (.ofNat 0)), (.int .i64 (.ofNat 0)), (.int .i64 (.ofNat 0))] H fun t7 H =>
  stK 5 H t7 t17 fun _ H =>
  pFa 0 t7 H fun t18 H =>
  ldK .none H t18 fun t19 H =>
  pEql t19 (.int .i64 (.ofNat 41)) H fun t20 H =>
  onBool t20 (ldK (.some 6) H t2 fun t21 H =>
  ldK (.some 5) H t7 fun t22 H =>
  pC call 221 [t21, t22] H fun t23 H =>
  pO (aLen .sl H t23) H fun t24 H =>
  S220_2 call 1000000 t1 t3 (.int .u64 (.ofNat 0)) t23 t24 (.int .i64 (.ofNat 0)) H) (S220_1 call t0 t1 t2 t3 (.int .u64 (.ofNat 0)) H)
noncomputable def S220 : Ff := ⟨fun call l H => argA4 (fun t0 t1 t2 t3 => S220_5 call t0 t1 t2 t3 H) l⟩
/- gantline/live.bitsOf -/
noncomputable def S222_1 (_ : CallFn) (q0 : AV → AV → AV → AV → AHeap → R) (t3 t6 t7 t8 : AV) (H : AHeap) : R :=
  pAdd t8 (.int .i64 (.ofNat 1)) H fun t23 H =>
  q0 t3 t6 t7 t23 H
noncomputable def S222_2 (call : CallFn) (q0 : AV → AV → AV → AV → AHeap → R) (t3 t5 t6 t7 t8 t14 t16 : AV) (H : AHeap) : R :=
  pPick t14 t16 (.bool false) H fun t17 H =>
  onBool t17 (pConv .u64 t5 H fun t20 H =>
  pO (aBin .shl (.int .u64 (.ofNat 1)) t20) H fun t21 H =>
  pOr t3 t21 H fun t22 H =>
  S222_1 call q0 t22 t6 t7 t8 H) (S222_1 call q0 t3 t6 t7 t8 H)
noncomputable def S222_0 (call : CallFn) (n : Nat) : AV → AV → AV → AV → AHeap → R :=
  Nat.rec (motive := fun _ => AV → AV → AV → AV → AHeap → R) (fun _ _ _ _ _ => none) (fun _ q0 t3 t6 t7 t8 H => pLss t8 t7 H fun t9 H =>
  onBool t9 (pIa 1 t6 t8 H fun t10 H =>
  ldK .none H t10 fun t11 H =>
  pGeq t11 (.int .i64 (.ofNat 0)) H fun t13 H =>
  guardA t13 true (pLss t11 (.int .i64 (.ofNat 64)) H fun t16 H =>
  S222_2 call q0 t3 t11 t6 t7 t8 t13 t16 H) (S222_2 call q0 t3 t11 t6 t7 t8 t13 U H)) (some (t3, H))) n
noncomputable def S222_3 (call : CallFn) (t0 : AV) (H : AHeap) : R :=
  pO (aLen .sl H t0) H fun t7 H =>
  S222_0 call 1000000 (.int .u64 (.ofNat 0)) t0 t7 (.int .i64 (.ofNat 0)) H
noncomputable def S222 : Ff := ⟨fun call l H => argA1 (fun t0 => S222_3 call t0 H) l⟩
/- gantline/live.Reads -/
noncomputable def S223_0 (call : CallFn) (t2 t3 t5 t142 t144 : AV) (H : AHeap) : R :=
  pPick t142 (.bool true) t144 H fun t145 H =>
  onBool t145 (pFa 1 t3 H fun t146 H =>
  ldK .none H t146 fun t147 H =>
  pFa 2 t3 H fun t148 H =>
  ldK .none H t148 fun t149 H =>
  pFa 3 t3 H fun t150 H =>
  ldK .none H t150 fun t151 H =>
  pN (aBsl 1 3 [(.int .i64 (.ofNat 0))] [(0, 1, t147), (1, 1, t149), (2, 1, t151)]) H fun t152 H =>
  some (t152, H)) (pEql t5 (.int .i64 (.ofNat 36)) H fun t155 H =>
  onBool t155 (pFa 3 t3 H fun t156 H =>
  ldK .none H t156 fun t157 H =>
  ldK (.some 6) H t2 fun t158 H =>
  pFa 2 t3 H fun t159 H =>
  ldK .none H t159 fun t160 H =>
  pC call 339 [t158, t160] H fun t161 H =>
  andR (andB (ckV (aLoad .none H t156) t157) true) (
  pO (aFld 1 .none t161) H fun t162 H =>
  pC call 338 [t157, t162] H fun t163 H =>
  some (t163, H))) (pEql t5 (.int .i64 (.ofNat 38)) H fun t166 H =>
  onBool t166 (pFa 1 t3 H fun t167 H =>
  ldK .none H t167 fun t168 H =>
  pFa 2 t3 H fun t169 H =>
  ldK .none H t169 fun t170 H =>
  pN (aBsl 1 2 [(.int .i64 (.ofNat 0))] [(0, 1, t168), (1, 1, t170)]) H fun t171 H =>
  some (t171, H)) (pEql t5 (.int .i64 (.ofNat 41)) H fun t174 H =>
  onBool t174 (ldK (.some 6) H t2 fun t175 H =>
  ldK (.some 5) H t3 fun t176 H =>
  pC call 221 [t175, t176] H fun t177 H =>
  pC call 341 [t177] H fun t178 H =>
  some (t178, H)) (some (.nilsl, H)))))
noncomputable def S223_1 (call : CallFn) (t2 t3 t5 t130 t132 : AV) (H : AHeap) : R :=
  pPick t130 (.bool true) t132 H fun t133 H =>
  onBool t133 (pFa 1 t3 H fun t134 H =>
  ldK .none H t134 fun t135 H =>
  pFa 3 t3 H fun t136 H =>
  ldK .none H t136 fun t137 H =>
  pN (aBsl 1 2 [(.int .i64 (.ofNat 0))] [(0, 1, t135), (1, 1, t137)]) H fun t138 H =>
  some (t138, H)) (pEql t5 (.int .i64 (.ofNat 31)) H fun t141 H =>
  guardA t141 false (pEql t5 (.int .i64 (.ofNat 32)) H fun t144 H =>
  S223_0 call t2 t3 t5 t141 t144 H) (S223_0 call t2 t3 t5 t141 U H))
noncomputable def S223_2 (call : CallFn) (t2 t3 t5 t120 t122 : AV) (H : AHeap) : R :=
  pPick t120 (.bool true) t122 H fun t123 H =>
  onBool t123 (pFa 3 t3 H fun t124 H =>
  ldK .none H t124 fun t125 H =>
  pN (aBsl 1 1 [(.int .i64 (.ofNat 0))] [(0, 1, t125)]) H fun t126 H =>
  some (t126, H)) (pEql t5 (.int .i64 (.ofNat 28)) H fun t129 H =>
  guardA t129 false (pEql t5 (.int .i64 (.ofNat 29)) H fun t132 H =>
  S223_1 call t2 t3 t5 t129 t132 H) (S223_1 call t2 t3 t5 t129 U H))
noncomputable def S223_3 (call : CallFn) (t2 t3 t5 t57 t59 : AV) (H : AHeap) : R :=
  pPick t57 (.bool true) t59 H fun t60 H =>
  onBool t60 (pFa 1 t3 H fun t61 H =>
  ldK .none H t61 fun t62 H =>
  pN (aBsl 1 1 [(.int .i64 (.ofNat 0))] [(0, 1, t62)]) H fun t63 H =>
  some (t63, H)) (pEql t5 (.int .i64 (.ofNat 20)) H fun t66 H =>
  onBool t66 (pFa 3 t3 H fun t67 H =>
  ldK .none H t67 fun t68 H =>
  ldK (.some 6) H t2 fun t69 H =>
  pFa 2 t3 H fun t70 H =>
  ldK .none H t70 fun t71 H =>
  pC call 339 [t69, t71] H fun t72 H =>
  andR (andB (ckV (aLoad .none H t67) t68) true) (
  pO (aFld 0 .none t72) H fun t73 H =>
  pC call 338 [t68, t73] H fun t74 H =>
  some (t74, H))) (pEql t5 (.int .i64 (.ofNat 21)) H fun t77 H =>
  onBool t77 (pFa 2 t3 H fun t78 H =>
  ldK .none H t78 fun t79 H =>
  pN (aBsl 1 1 [(.int .i64 (.ofNat 0))] [(0, 1, t79)]) H fun t80 H =>
  pFa 3 t3 H fun t81 H =>
  ldK .none H t81 fun t82 H =>
  pFa 4 t3 H fun t83 H =>
  ldK .none H t83 fun t84 H =>
  pC call 338 [t82, t84] H fun t85 H =>
  andR (andB (ckV (aLoad .none H t78) t79) true) (
  pW (aApp 1 8 H t80 t85) fun t86 H =>
  some (t86, H))) (pEql t5 (.int .i64 (.ofNat 22)) H fun t89 H =>
  onBool t89 (pFa 1 t3 H fun t90 H =>
  ldK .none H t90 fun t91 H =>
  pN (aBsl 1 1 [(.int .i64 (.ofNat 0))] [(0, 1, t91)]) H fun t92 H =>
  pC call 340 [t92] H fun t93 H =>
  some (t93, H)) (pEql t5 (.int .i64 (.ofNat 23)) H fun t96 H =>
  onBool t96 (pFa 2 t3 H fun t97 H =>
  ldK .none H t97 fun t98 H =>
  ldK (.some 6) H t2 fun t99 H =>
  pFa 1 t3 H fun t100 H =>
  ldK .none H t100 fun t101 H =>
  pC call 339 [t99, t101] H fun t102 H =>
  andR (andB (ckV (aLoad .none H t97) t98) true) (
  pO (aFld 0 .none t102) H fun t103 H =>
  pC call 338 [t98, t103] H fun t104 H =>
  some (t104, H))) (pEql t5 (.int .i64 (.ofNat 24)) H fun t107 H =>
  onBool t107 (pFa 1 t3 H fun t108 H =>
  ldK .none H t108 fun t109 H =>
  pN (aBsl 1 1 [(.int .i64 (.ofNat 0))] [(0, 1, t109)]) H fun t110 H =>
  pFa 2 t3 H fun t111 H =>
  ldK .none H t111 fun t112 H =>
  pFa 3 t3 H fun t113 H =>
  ldK .none H t113 fun t114 H =>
  pC call 338 [t112, t114] H fun t115 H =>
  andR (andB (ckV (aLoad .none H t108) t109) true) (
  pW (aApp 1 8 H t110 t115) fun t116 H =>
  some (t116, H))) (pEql t5 (.int .i64 (.ofNat 26)) H fun t119 H =>
  guardA t119 false (pEql t5 (.int .i64 (.ofNat 37)) H fun t122 H =>
  S223_2 call t2 t3 t5 t119 t122 H) (S223_2 call t2 t3 t5 t119 U H)))))))
noncomputable def S223_4 (call : CallFn) (t2 t3 t5 t53 t55 : AV) (H : AHeap) : R :=
  pPick t53 (.bool true) t55 H fun t56 H =>
  guardA t56 false (pEql t5 (.int .i64 (.ofNat 42)) H fun t59 H =>
  S223_3 call t2 t3 t5 t56 t59 H) (S223_3 call t2 t3 t5 t56 U H)
noncomputable def S223_5 (call : CallFn) (t2 t3 t5 t41 t43 : AV) (H : AHeap) : R :=
  pPick t41 (.bool true) t43 H fun t44 H =>
  onBool t44 (pFa 2 t3 H fun t45 H =>
  ldK .none H t45 fun t46 H =>
  pFa 3 t3 H fun t47 H =>
  ldK .none H t47 fun t48 H =>
  pN (aBsl 1 2 [(.int .i64 (.ofNat 0))] [(0, 1, t46), (1, 1, t48)]) H fun t49 H =>
  some (t49, H)) (pEql t5 (.int .i64 (.ofNat 19)) H fun t52 H =>
  guardA t52 false (pEql t5 (.int .i64 (.ofNat 40)) H fun t55 H =>
  S223_4 call t2 t3 t5 t52 t55 H) (S223_4 call t2 t3 t5 t52 U H))
noncomputable def S223_6 (call : CallFn) (t2 t3 t5 t37 t39 : AV) (H : AHeap) : R :=
  pPick t37 t39 (.bool false) H fun t40 H =>
  guardA t40 false (pEql t5 (.int .i64 (.ofNat 30)) H fun t43 H =>
  S223_5 call t2 t3 t5 t40 t43 H) (S223_5 call t2 t3 t5 t40 U H)
noncomputable def S223_7 (call : CallFn) (t2 t3 t5 t27 t29 : AV) (H : AHeap) : R :=
  pPick t27 (.bool true) t29 H fun t30 H =>
  onBool t30 (pFa 2 t3 H fun t31 H =>
  ldK .none H t31 fun t32 H =>
  pN (aBsl 1 1 [(.int .i64 (.ofNat 0))] [(0, 1, t32)]) H fun t33 H =>
  some (t33, H)) (pGeq t5 (.int .i64 (.ofNat 3)) H fun t36 H =>
  guardA t36 true (pLeq t5 (.int .i64 (.ofNat 16)) H fun t39 H =>
  S223_6 call t2 t3 t5 t36 t39 H) (S223_6 call t2 t3 t5 t36 U H))
noncomputable def S223_8 (call : CallFn) (t2 t3 t5 t23 t25 : AV) (H : AHeap) : R :=
  pPick t23 (.bool true) t25 H fun t26 H =>
  guardA t26 false (pEql t5 (.int .i64 (.ofNat 39)) H fun t29 H =>
  S223_7 call t2 t3 t5 t26 t29 H) (S223_7 call t2 t3 t5 t26 U H)
noncomputable def S223_9 (call : CallFn) (t2 t3 t5 t19 t21 : AV) (H : AHeap) : R :=
  pPick t19 (.bool true) t21 H fun t22 H =>
  guardA t22 false (pEql t5 (.int .i64 (.ofNat 27)) H fun t25 H =>
  S223_8 call t2 t3 t5 t22 t25 H) (S223_8 call t2 t3 t5 t22 U H)
noncomputable def S223_10 (call : CallFn) (t2 t3 t5 t15 t17 : AV) (H : AHeap) : R :=
  pPick t15 (.bool true) t17 H fun t18 H =>
  guardA t18 false (pEql t5 (.int .i64 (.ofNat 35)) H fun t21 H =>
  S223_9 call t2 t3 t5 t18 t21 H) (S223_9 call t2 t3 t5 t18 U H)
noncomputable def S223_11 (call : CallFn) (t2 t3 t5 t11 t13 : AV) (H : AHeap) : R :=
  pPick t11 (.bool true) t13 H fun t14 H =>
  guardA t14 false (pEql t5 (.int .i64 (.ofNat 33)) H fun t17 H =>
  S223_10 call t2 t3 t5 t14 t17 H) (S223_10 call t2 t3 t5 t14 U H)
noncomputable def S223_12 (call : CallFn) (t0 t1 : AV) (H : AHeap) : R :=
  pBox t0 H fun t2 H =>
  pBox t1 H fun t3 H =>
  pFa 0 t3 H fun t6 H =>
  ldK .none H t6 fun t7 H =>
  pEql t7 (.int .i64 (.ofNat 1)) H fun t10 H =>
  guardA t10 false (pEql t7 (.int .i64 (.ofNat 17)) H fun t13 H =>
  S223_11 call t2 t3 t7 t10 t13 H) (S223_11 call t2 t3 t7 t10 U H)
noncomputable def S223 : Ff := ⟨fun call l H => argA2 (fun t0 t1 => S223_12 call t0 t1 H) l⟩
/- gantline/live.Writes -/
noncomputable def S224_0 (call : CallFn) (t1 t3 t47 t49 : AV) (H : AHeap) : R :=
  pPick t47 (.bool true) t49 H fun t50 H =>
  onBool t50 (pFa 1 t1 H fun t51 H =>
  ldK .none H t51 fun t52 H =>
  pN (aBsl 1 1 [(.int .i64 (.ofNat 0))] [(0, 1, t52)]) H fun t53 H =>
  pC call 340 [t53] H fun t54 H =>
  some (t54, H)) (pEql t3 (.int .i64 (.ofNat 39)) H fun t57 H =>
  onBool t57 (pFa 1 t1 H fun t58 H =>
  ldK .none H t58 fun t59 H =>
  pFa 3 t1 H fun t60 H =>
  ldK .none H t60 fun t61 H =>
  pN (aBsl 1 2 [(.int .i64 (.ofNat 0))] [(0, 1, t59), (1, 1, t61)]) H fun t62 H =>
  pC call 340 [t62] H fun t63 H =>
  some (t63, H)) (some (.nilsl, H)))
noncomputable def S224_1 (call : CallFn) (t1 t3 t37 t39 : AV) (H : AHeap) : R :=
  pPick t37 (.bool true) t39 H fun t40 H =>
  onBool t40 (pFa 1 t1 H fun t41 H =>
  ldK .none H t41 fun t42 H =>
  pN (aBsl 1 1 [(.int .i64 (.ofNat 0))] [(0, 1, t42)]) H fun t43 H =>
  some (t43, H)) (pEql t3 (.int .i64 (.ofNat 20)) H fun t46 H =>
  guardA t46 false (pEql t3 (.int .i64 (.ofNat 21)) H fun t49 H =>
  S224_0 call t1 t3 t46 t49 H) (S224_0 call t1 t3 t46 U H))
noncomputable def S224_2 (call : CallFn) (t1 t3 t33 t35 : AV) (H : AHeap) : R :=
  pPick t33 (.bool true) t35 H fun t36 H =>
  guardA t36 false (pEql t3 (.int .i64 (.ofNat 37)) H fun t39 H =>
  S224_1 call t1 t3 t36 t39 H) (S224_1 call t1 t3 t36 U H)
noncomputable def S224_3 (call : CallFn) (t1 t3 t29 t31 : AV) (H : AHeap) : R :=
  pPick t29 (.bool true) t31 H fun t32 H =>
  guardA t32 false (pEql t3 (.int .i64 (.ofNat 36)) H fun t35 H =>
  S224_2 call t1 t3 t32 t35 H) (S224_2 call t1 t3 t32 U H)
noncomputable def S224_4 (call : CallFn) (t1 t3 t25 t27 : AV) (H : AHeap) : R :=
  pPick t25 (.bool true) t27 H fun t28 H =>
  guardA t28 false (pEql t3 (.int .i64 (.ofNat 34)) H fun t31 H =>
  S224_3 call t1 t3 t28 t31 H) (S224_3 call t1 t3 t28 U H)
noncomputable def S224_5 (call : CallFn) (t1 t3 t21 t23 : AV) (H : AHeap) : R :=
  pPick t21 (.bool true) t23 H fun t24 H =>
  guardA t24 false (pEql t3 (.int .i64 (.ofNat 33)) H fun t27 H =>
  S224_4 call t1 t3 t24 t27 H) (S224_4 call t1 t3 t24 U H)
noncomputable def S224_6 (call : CallFn) (t1 t3 t13 t19 : AV) (H : AHeap) : R :=
  pPick t13 (.bool true) t19 H fun t20 H =>
  guardA t20 false (pEql t3 (.int .i64 (.ofNat 30)) H fun t23 H =>
  S224_5 call t1 t3 t20 t23 H) (S224_5 call t1 t3 t20 U H)
noncomputable def S224_7 (call : CallFn) (t1 t3 t13 t16 t18 : AV) (H : AHeap) : R :=
  guardA t13 false (pPick t16 t18 (.bool false) H fun t19 H =>
  S224_6 call t1 t3 t13 t19 H) (S224_6 call t1 t3 t13 U H)
noncomputable def S224_8 (call : CallFn) (t1 t3 t13 t16 : AV) (H : AHeap) : R :=
  guardA t16 true (pLeq t3 (.int .i64 (.ofNat 27)) H fun t18 H =>
  S224_7 call t1 t3 t13 t16 t18 H) (S224_7 call t1 t3 t13 t16 U H)
noncomputable def S224_9 (call : CallFn) (t1 t3 t9 t11 : AV) (H : AHeap) : R :=
  pPick t9 t11 (.bool false) H fun t12 H =>
  guardA t12 false (pGeq t3 (.int .i64 (.ofNat 25)) H fun t15 H =>
  S224_8 call t1 t3 t12 t15 H) (S224_8 call t1 t3 t12 U H)
noncomputable def S224_10 (call : CallFn) (t0 : AV) (H : AHeap) : R :=
  pBox t0 H fun t1 H =>
  pFa 0 t1 H fun t4 H =>
  ldK .none H t4 fun t5 H =>
  pGeq t5 (.int .i64 (.ofNat 0)) H fun t8 H =>
  guardA t8 true (pLeq t5 (.int .i64 (.ofNat 17)) H fun t11 H =>
  S224_9 call t1 t5 t8 t11 H) (S224_9 call t1 t5 t8 U H)
noncomputable def S224 : Ff := ⟨fun call l H => argA1 (fun t0 => S224_10 call t0 H) l⟩
/- gantline/code.Point -/
noncomputable def S225_0 (call : CallFn) (t0 t4 : AV) (H : AHeap) : R :=
  onBool t4 (some ((.bool true), H)) (pC call 226 [t0] H fun t14 H =>
  some (t14, H))
noncomputable def S225_1 (call : CallFn) (t0 : AV) (H : AHeap) : R :=
  pEql t0 (.int .i64 (.ofNat 20)) H fun t5 H =>
  onBool t5 (S225_0 call t0 t5 H) (pEql t0 (.int .i64 (.ofNat 21)) H fun t6 H =>
  onBool t6 (S225_0 call t0 t6 H) (pEql t0 (.int .i64 (.ofNat 23)) H fun t7 H =>
  onBool t7 (S225_0 call t0 t7 H) (pEql t0 (.int .i64 (.ofNat 24)) H fun t8 H =>
  onBool t8 (S225_0 call t0 t8 H) (pEql t0 (.int .i64 (.ofNat 38)) H fun t9 H =>
  onBool t9 (S225_0 call t0 t9 H) (pEql t0 (.int .i64 (.ofNat 39)) H fun t10 H =>
  onBool t10 (S225_0 call t0 t10 H) (pEql t0 (.int .i64 (.ofNat 41)) H fun t11 H =>
  onBool t11 (S225_0 call t0 t11 H) (pEql t0 (.int .i64 (.ofNat 43)) H fun t12 H =>
  S225_0 call t0 t12 H)))))))
noncomputable def S225 : Ff := ⟨fun call l H => argA1 (fun t0 => S225_1 call t0 H) l⟩
/- gantline/code.Maker -/
noncomputable def S226_0 (_ : CallFn) (t13 t15 : AV) (H : AHeap) : R :=
  pPick t13 (.bool true) t15 H fun t16 H =>
  some (t16, H)
noncomputable def S226_1 (call : CallFn) (t0 t9 t11 : AV) (H : AHeap) : R :=
  pPick t9 (.bool true) t11 H fun t12 H =>
  guardA t12 false (pEql t0 (.int .i64 (.ofNat 37)) H fun t15 H =>
  S226_0 call t12 t15 H) (S226_0 call t12 U H)
noncomputable def S226_2 (call : CallFn) (t0 t5 t7 : AV) (H : AHeap) : R :=
  pPick t5 (.bool true) t7 H fun t8 H =>
  guardA t8 false (pEql t0 (.int .i64 (.ofNat 36)) H fun t11 H =>
  S226_1 call t0 t8 t11 H) (S226_1 call t0 t8 U H)
noncomputable def S226_3 (call : CallFn) (t0 : AV) (H : AHeap) : R :=
  pEql t0 (.int .i64 (.ofNat 25)) H fun t4 H =>
  guardA t4 false (pEql t0 (.int .i64 (.ofNat 26)) H fun t7 H =>
  S226_2 call t0 t4 t7 H) (S226_2 call t0 t4 U H)
noncomputable def S226 : Ff := ⟨fun call l H => argA1 (fun t0 => S226_3 call t0 H) l⟩
/- (gantline/fresh.states).put -/
noncomputable def S227_0 (_ : CallFn) (t0 t1 t5 t8 t12 : AV) (H : AHeap) : R :=
  pPick t8 t12 (.bool false) H fun t13 H =>
  onBool t13 (ldK (.some 3) H t5 fun t16 H =>
  pIa 3 t0 t1 H fun t17 H =>
  stK 3 H t17 t16 fun _ H =>
  some (.tup [], H)) (some (.tup [], H))
noncomputable def S227_1 (call : CallFn) (t0 t1 t2 : AV) (H : AHeap) : R :=
  pBox t2 H fun t5 H =>
  pGeq t1 (.int .i64 (.ofNat 0)) H fun t7 H =>
  guardA t7 true (pO (aLen .sl H t0) H fun t11 H =>
  pLss t1 t11 H fun t12 H =>
  S227_0 call t0 t1 t5 t7 t12 H) (S227_0 call t0 t1 t5 t7 U H)
noncomputable def S227 : Ff := ⟨fun call l H => argA3 (fun t0 t1 t2 => S227_1 call t0 t1 t2 H) l⟩
/- gantline/fresh.lends -/
noncomputable def S229_0 (_ : CallFn) (t4 : AV) (H : AHeap) : R :=
  onBool t4 (some ((.bool true), H)) (some ((.bool false), H))
noncomputable def S229_1 (call : CallFn) (t0 : AV) (H : AHeap) : R :=
  pEql t0 (.int .i64 (.ofNat 35)) H fun t5 H =>
  onBool t5 (S229_0 call t5 H) (pEql t0 (.int .i64 (.ofNat 20)) H fun t6 H =>
  onBool t6 (S229_0 call t6 H) (pEql t0 (.int .i64 (.ofNat 21)) H fun t7 H =>
  onBool t7 (S229_0 call t7 H) (pEql t0 (.int .i64 (.ofNat 23)) H fun t8 H =>
  onBool t8 (S229_0 call t8 H) (pEql t0 (.int .i64 (.ofNat 24)) H fun t9 H =>
  onBool t9 (S229_0 call t9 H) (pEql t0 (.int .i64 (.ofNat 22)) H fun t10 H =>
  S229_0 call t10 H)))))
noncomputable def S229 : Ff := ⟨fun call l H => argA1 (fun t0 => S229_1 call t0 H) l⟩
/- gantline/fresh.receives -/
noncomputable def S230_1 (_ : CallFn) (q0 : AV → AV → AV → AV → AHeap → R) (t5 t49 t50 t51 : AV) (H : AHeap) : R :=
  pAdd t51 (.int .i64 (.ofNat 1)) H fun t63 H =>
  q0 t5 t49 t50 t63 H
noncomputable def S230_0 (call : CallFn) (n : Nat) : AV → AV → AV → AV → AHeap → R :=
  Nat.rec (motive := fun _ => AV → AV → AV → AV → AHeap → R) (fun _ _ _ _ _ => none) (fun _ q0 t5 t49 t50 t51 H => pLss t51 t50 H fun t52 H =>
  onBool t52 (pIa 4 t49 t51 H fun t53 H =>
  ldK (.some 4) H t53 fun t54 H =>
  pNew [(.int .i64 (.ofNat 0)), (.int .i64 (.ofNat 0)), (.int .i64 (.ofNat 0)), (.int .i64 (.ofNat 0))] H fun t7 H =>
  stK 4 H t7 t54 fun _ H =>
  pFa 0 t7 H fun t55 H =>
  ldK .none H t55 fun t56 H =>
  pEql t56 (.int .i64 (.ofNat 0)) H fun t57 H =>
  onBool t57 (pFa 2 t7 H fun t59 H =>
  ldK .none H t59 fun t60 H =>
  pN (aBsl 1 1 [(.int .i64 (.ofNat 0))] [(0, 1, t60)]) H fun t61 H =>
  pW (aApp 1 8 H t5 t61) fun t62 H =>
  S230_1 call q0 t62 t49 t50 t51 H) (S230_1 call q0 t5 t49 t50 t51 H)) (some (t5, H))) n
noncomputable def S230_2 (call : CallFn) (t2 t3 t29 t38 : AV) (H : AHeap) : R :=
  pPick t29 (.bool true) t38 H fun t39 H =>
  onBool t39 (some (.nilsl, H)) (pFa 3 t2 H fun t40 H =>
  ldK .none H t40 fun t41 H =>
  pFa 1 t3 H fun t42 H =>
  ldK .none H t42 fun t43 H =>
  pFa 1 t3 H fun t44 H =>
  ldK .none H t44 fun t45 H =>
  pFa 2 t3 H fun t46 H =>
  ldK .none H t46 fun t47 H =>
  pAdd t45 t47 H fun t48 H =>
  pO (aSlice 4 H t41 (.some t43) (.some t48) .none) H fun t49 H =>
  pO (aLen .sl H t49) H fun t50 H =>
  S230_0 call 1000000 .nilsl t49 t50 (.int .i64 (.ofNat 0)) H)
noncomputable def S230_3 (call : CallFn) (t2 t3 t21 t27 : AV) (H : AHeap) : R :=
  pPick t21 (.bool true) t27 H fun t28 H =>
  guardA t28 false (pFa 2 t3 H fun t30 H =>
  ldK .none H t30 fun t31 H =>
  pFa 3 t2 H fun t32 H =>
  ldK .none H t32 fun t33 H =>
  pO (aLen .sl H t33) H fun t34 H =>
  pFa 1 t3 H fun t35 H =>
  ldK .none H t35 fun t36 H =>
  pSub t34 t36 H fun t37 H =>
  pGtr t31 t37 H fun t38 H =>
  S230_2 call t2 t3 t28 t38 H) (S230_2 call t2 t3 t28 U H)
noncomputable def S230_4 (call : CallFn) (t2 t3 t16 t19 : AV) (H : AHeap) : R :=
  pPick t16 (.bool true) t19 H fun t20 H =>
  guardA t20 false (pFa 1 t3 H fun t22 H =>
  ldK .none H t22 fun t23 H =>
  pFa 3 t2 H fun t24 H =>
  ldK .none H t24 fun t25 H =>
  pO (aLen .sl H t25) H fun t26 H =>
  pGtr t23 t26 H fun t27 H =>
  S230_3 call t2 t3 t20 t27 H) (S230_3 call t2 t3 t20 U H)
noncomputable def S230_5 (call : CallFn) (t2 t3 t11 t14 : AV) (H : AHeap) : R :=
  pPick t11 (.bool true) t14 H fun t15 H =>
  guardA t15 false (pFa 2 t3 H fun t17 H =>
  ldK .none H t17 fun t18 H =>
  pLss t18 (.int .i64 (.ofNat 0)) H fun t19 H =>
  S230_4 call t2 t3 t15 t19 H) (S230_4 call t2 t3 t15 U H)
noncomputable def S230_6 (call : CallFn) (t0 t1 : AV) (H : AHeap) : R :=
  pBox t0 H fun t2 H =>
  pBox t1 H fun t3 H =>
  pFa 0 t3 H fun t8 H =>
  ldK .none H t8 fun t9 H =>
  pNeq t9 (.int .i64 (.ofNat 41)) H fun t10 H =>
  guardA t10 false (pFa 1 t3 H fun t12 H =>
  ldK .none H t12 fun t13 H =>
  pLss t13 (.int .i64 (.ofNat 0)) H fun t14 H =>
  S230_5 call t2 t3 t10 t14 H) (S230_5 call t2 t3 t10 U H)
noncomputable def S230 : Ff := ⟨fun call l H => argA2 (fun t0 t1 => S230_6 call t0 t1 H) l⟩
/- gantline/live.Follows$1 -/
noncomputable def S231_0 (_ : CallFn) (t6 t11 : AV) (H : AHeap) : R :=
  pPick t6 (.bool true) t11 H fun t12 H =>
  some (t12, H)
noncomputable def S231_1 (call : CallFn) (t0 t1 : AV) (H : AHeap) : R :=
  pLss t0 (.int .i64 (.ofNat 0)) H fun t5 H =>
  guardA t5 false (pFa 5 t1 H fun t8 H =>
  ldK .none H t8 fun t9 H =>
  pO (aLen .sl H t9) H fun t10 H =>
  pGeq t0 t10 H fun t11 H =>
  S231_0 call t5 t11 H) (S231_0 call t5 U H)
noncomputable def S231 : Ff := ⟨fun call l H => argA2 (fun t0 t1 => S231_1 call t0 t1 H) l⟩
/- slices.Sort[[]int,int] -/
noncomputable def S232_0 (call : CallFn) (t0 : AV) (H : AHeap) : R :=
  pO (aLen .sl H t0) H fun t4 H =>
  pConv .u64 t4 H fun t8 H =>
  pC call 343 [t8] H fun t9 H =>
  pC call 342 [t0, (.int .i64 (.ofNat 0)), t4, t9] H fun _ H =>
  some (.tup [], H)
noncomputable def S232 : Ff := ⟨fun call l H => argA1 (fun t0 => S232_0 call t0 H) l⟩
/- slices.Compact[[]int,int] -/
noncomputable def S233_1 (_ : CallFn) (q0 : AV → AV → AHeap → R) (t0 t3 : AV) (H : AHeap) : R :=
  pAdd t3 (.int .i64 (.ofNat 1)) H fun t15 H =>
  q0 t0 t15 H
noncomputable def S233_2 (_ : CallFn) (t0 t3 : AV) (H : AHeap) : R :=
  pO (aSlice 1 H t0 (.some t3) .none .none) H fun t56 H =>
  pW (unitW (aClearS [(.int .i64 (.ofNat 0))] H t56)) fun _ H =>
  pO (aSlice 1 H t0 .none (.some t3) .none) H fun t59 H =>
  some (t59, H)
noncomputable def S233_4 (_ : CallFn) (q1 : AV → AV → AV → AV → AHeap → R) (t0 t3 t4 t5 : AV) (H : AHeap) : R :=
  pAdd t5 (.int .i64 (.ofNat 1)) H fun t34 H =>
  q1 t0 t3 t4 t34 H
noncomputable def S233_3 (call : CallFn) (n : Nat) : AV → AV → AV → AV → AHeap → R :=
  Nat.rec (motive := fun _ => AV → AV → AV → AV → AHeap → R) (fun _ _ _ _ _ => none) (fun _ q1 t0 t3 t4 t5 H => pO (aLen .sl H t4) H fun t31 H =>
  pLss t5 t31 H fun t32 H =>
  onBool t32 (pIa 1 t4 t5 H fun t37 H =>
  ldK .none H t37 fun t38 H =>
  pSub t5 (.int .i64 (.ofNat 1)) H fun t41 H =>
  pIa 1 t4 t41 H fun t42 H =>
  ldK .none H t42 fun t43 H =>
  pNeq t38 t43 H fun t44 H =>
  onBool t44 (pIa 1 t4 t5 H fun t49 H =>
  ldK .none H t49 fun t50 H =>
  pIa 1 t0 t3 H fun t51 H =>
  stK 1 H t51 t50 fun _ H =>
  pAdd t3 (.int .i64 (.ofNat 1)) H fun t53 H =>
  S233_4 call q1 t0 t53 t4 t5 H) (S233_4 call q1 t0 t3 t4 t5 H)) (S233_2 call t0 t3 H)) n
noncomputable def S233_0 (call : CallFn) (n : Nat) : AV → AV → AHeap → R :=
  Nat.rec (motive := fun _ => AV → AV → AHeap → R) (fun _ _ _ => none) (fun _ q0 t0 t3 H => pO (aLen .sl H t0) H fun t12 H =>
  pLss t3 t12 H fun t13 H =>
  onBool t13 (pIa 1 t0 t3 H fun t18 H =>
  ldK .none H t18 fun t19 H =>
  pSub t3 (.int .i64 (.ofNat 1)) H fun t22 H =>
  pIa 1 t0 t22 H fun t23 H =>
  ldK .none H t23 fun t24 H =>
  pEql t19 t24 H fun t25 H =>
  onBool t25 (pO (aSlice 1 H t0 (.some t3) .none .none) H fun t28 H =>
  S233_3 call 1000000 t0 t3 t28 (.int .i64 (.ofNat 1)) H) (S233_1 call q0 t0 t3 H)) (some (t0, H))) n
noncomputable def S233_5 (call : CallFn) (t0 : AV) (H : AHeap) : R :=
  pO (aLen .sl H t0) H fun t7 H =>
  pLss t7 (.int .i64 (.ofNat 2)) H fun t8 H =>
  onBool t8 (some (t0, H)) (S233_0 call 1000000 t0 (.int .i64 (.ofNat 1)) H)
noncomputable def S233 : Ff := ⟨fun call l H => argA1 (fun t0 => S233_5 call t0 H) l⟩
/- (*gantline/arena.Arena).Spans -/
noncomputable def S234_0 (_ : CallFn) (t0 : AV) (H : AHeap) : R :=
  pO (aNil t0) H fun t4 H =>
  pFa 1 t4 H fun t5 H =>
  ldK .none H t5 fun t6 H =>
  pO (aLen .sl H t6) H fun t7 H =>
  some (t7, H)
noncomputable def S234 : Ff := ⟨fun call l H => argA1 (fun t0 => S234_0 call t0 H) l⟩
end Go.Proofs.YtbjjgndgofakoaaGreatDoor
