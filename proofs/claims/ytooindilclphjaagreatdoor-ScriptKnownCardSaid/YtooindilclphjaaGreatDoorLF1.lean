/- Plain functions, printed: part 1. -/
import Derived.Test.YtooindilclphjaaGreatDoorAdE
import Derived.Test.YtooindilclphjaaGreatDoorProg
import Derived.KernelRfl
set_option linter.unusedVariables false
namespace Go.Proofs.YtooindilclphjaaGreatDoor
open Go.Ab
set_option maxRecDepth 100000
/- gantline/emit.polled -/
noncomputable def S82_1 (_ : CallFn) (q0 : AV → AV → AV → AV → AV → AV → AHeap → R) (t2 t3 t5 t15 t16 t17 : AV) (H : AHeap) : R :=
  pAdd t17 (.int .i64 (.ofNat 1)) H fun t50 H =>
  q0 t2 t3 t5 t15 t16 t50 H
noncomputable def S82_3 (_ : CallFn) (q1 : AV → AV → AV → AV → AV → AV → AV → AV → AV → AV → AHeap → R) (t2 t3 t5 t6 t15 t16 t17 t24 t25 t26 : AV) (H : AHeap) : R :=
  pAdd t26 (.int .i64 (.ofNat 1)) H fun t49 H =>
  q1 t2 t3 t5 t6 t15 t16 t17 t24 t25 t49 H
noncomputable def S82_4 (call : CallFn) (q1 : AV → AV → AV → AV → AV → AV → AV → AV → AV → AV → AHeap → R) (t2 t3 t5 t6 t9 t15 t16 t17 t24 t25 t26 t37 t44 : AV) (H : AHeap) : R :=
  pPick t37 t44 (.bool false) H fun t45 H =>
  onBool t45 (pIa 1 t5 t9 H fun t48 H =>
  stK 1 H t48 (.bool true) fun _ H =>
  S82_3 call q1 t2 t3 t5 t6 t15 t16 t17 t24 t25 t26 H) (S82_3 call q1 t2 t3 t5 t6 t15 t16 t17 t24 t25 t26 H)
noncomputable def S82_5 (call : CallFn) (q1 : AV → AV → AV → AV → AV → AV → AV → AV → AV → AV → AHeap → R) (t2 t3 t5 t6 t9 t15 t16 t17 t24 t25 t26 t32 t35 : AV) (H : AHeap) : R :=
  pPick t32 t35 (.bool false) H fun t36 H =>
  guardA t36 true (pFa 5 t3 H fun t38 H =>
  ldK .none H t38 fun t39 H =>
  pIa 5 t39 t9 H fun t41 H =>
  pFa 0 t41 H fun t42 H =>
  ldK .none H t42 fun t43 H =>
  pNeq t43 (.int .i64 (.ofNat 43)) H fun t44 H =>
  S82_4 call q1 t2 t3 t5 t6 t9 t15 t16 t17 t24 t25 t26 t36 t44 H) (S82_4 call q1 t2 t3 t5 t6 t9 t15 t16 t17 t24 t25 t26 t36 U H)
noncomputable def S82_2 (call : CallFn) (q0 : AV → AV → AV → AV → AV → AV → AHeap → R) (n : Nat) : AV → AV → AV → AV → AV → AV → AV → AV → AV → AV → AHeap → R :=
  Nat.rec (motive := fun _ => AV → AV → AV → AV → AV → AV → AV → AV → AV → AV → AHeap → R) (fun _ _ _ _ _ _ _ _ _ _ _ => none) (fun _ q1 t2 t3 t5 t6 t15 t16 t17 t24 t25 t26 H => pLss t26 t25 H fun t27 H =>
  onBool t27 (pIa 1 t24 t26 H fun t28 H =>
  ldK .none H t28 fun t29 H =>
  pGeq t29 (.int .i64 (.ofNat 0)) H fun t31 H =>
  guardA t31 true (pLeq t29 t6 H fun t35 H =>
  S82_5 call q1 t2 t3 t5 t6 t29 t15 t16 t17 t24 t25 t26 t31 t35 H) (S82_5 call q1 t2 t3 t5 t6 t29 t15 t16 t17 t24 t25 t26 t31 U H)) (S82_1 call q0 t2 t3 t5 t15 t16 t17 H)) n
noncomputable def S82_0 (call : CallFn) (n : Nat) : AV → AV → AV → AV → AV → AV → AHeap → R :=
  Nat.rec (motive := fun _ => AV → AV → AV → AV → AV → AV → AHeap → R) (fun _ _ _ _ _ _ _ => none) (fun _ q0 t2 t3 t5 t15 t16 t17 H => pLss t17 t16 H fun t18 H =>
  onBool t18 (pIa 5 t15 t17 H fun t20 H =>
  ldK (.some 5) H t20 fun t21 H =>
  pNew [(.int .i64 (.ofNat 0)), (.int .i64 (.ofNat 0)), (.int .i64 (.ofNat 0)), (.int .i64 (.ofNat 0)), (.int .i64 (.ofNat 0))] H fun t7 H =>
  stK 5 H t7 t21 fun _ H =>
  ldK (.some 6) H t2 fun t22 H =>
  ldK (.some 5) H t7 fun t23 H =>
  pC call 151 [t22, t23] H fun t24 H =>
  pO (aLen .sl H t24) H fun t25 H =>
  S82_2 call q0 1000000 t2 t3 t5 t17 t15 t16 t17 t24 t25 (.int .i64 (.ofNat 0)) H) (some (t5, H))) n
noncomputable def S82_6 (call : CallFn) (t0 t1 : AV) (H : AHeap) : R :=
  pBox t0 H fun t2 H =>
  pBox t1 H fun t3 H =>
  pFa 5 t3 H fun t10 H =>
  ldK .none H t10 fun t11 H =>
  pO (aLen .sl H t11) H fun t12 H =>
  pN (aMksl 1 1 [(.bool false)] t12 t12) H fun t13 H =>
  pFa 5 t3 H fun t14 H =>
  ldK .none H t14 fun t15 H =>
  pO (aLen .sl H t15) H fun t16 H =>
  S82_0 call 1000000 t2 t3 t13 t15 t16 (.int .i64 (.ofNat 0)) H
noncomputable def S82 : Ff := ⟨fun call l H => argA2 (fun t0 t1 => S82_6 call t0 t1 H) l⟩
/- gantline/emit.cases -/
noncomputable def S84_0 (_ : CallFn) (t3 t27 t36 : AV) (H : AHeap) : R :=
  pPick t27 (.bool true) t36 H fun t37 H =>
  onBool t37 (some (.tup [(.int .i64 (.ofNat 0)), (.int .i64 (.ofNat 0))], H)) (pFa 1 t3 H fun t38 H =>
  ldK .none H t38 fun t39 H =>
  pFa 1 t3 H fun t40 H =>
  ldK .none H t40 fun t41 H =>
  pFa 2 t3 H fun t42 H =>
  ldK .none H t42 fun t43 H =>
  pAdd t41 t43 H fun t44 H =>
  some (.tup [t39, t44], H))
noncomputable def S84_1 (call : CallFn) (t2 t3 t19 t25 : AV) (H : AHeap) : R :=
  pPick t19 (.bool true) t25 H fun t26 H =>
  guardA t26 false (pFa 2 t3 H fun t28 H =>
  ldK .none H t28 fun t29 H =>
  pFa 3 t2 H fun t30 H =>
  ldK .none H t30 fun t31 H =>
  pO (aLen .sl H t31) H fun t32 H =>
  pFa 1 t3 H fun t33 H =>
  ldK .none H t33 fun t34 H =>
  pSub t32 t34 H fun t35 H =>
  pGtr t29 t35 H fun t36 H =>
  S84_0 call t3 t26 t36 H) (S84_0 call t3 t26 U H)
noncomputable def S84_2 (call : CallFn) (t2 t3 t14 t17 : AV) (H : AHeap) : R :=
  pPick t14 (.bool true) t17 H fun t18 H =>
  guardA t18 false (pFa 1 t3 H fun t20 H =>
  ldK .none H t20 fun t21 H =>
  pFa 3 t2 H fun t22 H =>
  ldK .none H t22 fun t23 H =>
  pO (aLen .sl H t23) H fun t24 H =>
  pGtr t21 t24 H fun t25 H =>
  S84_1 call t2 t3 t18 t25 H) (S84_1 call t2 t3 t18 U H)
noncomputable def S84_3 (call : CallFn) (t2 t3 t9 t12 : AV) (H : AHeap) : R :=
  pPick t9 (.bool true) t12 H fun t13 H =>
  guardA t13 false (pFa 2 t3 H fun t15 H =>
  ldK .none H t15 fun t16 H =>
  pLss t16 (.int .i64 (.ofNat 0)) H fun t17 H =>
  S84_2 call t2 t3 t13 t17 H) (S84_2 call t2 t3 t13 U H)
noncomputable def S84_4 (call : CallFn) (t0 t1 : AV) (H : AHeap) : R :=
  pBox t0 H fun t2 H =>
  pBox t1 H fun t3 H =>
  pFa 0 t3 H fun t6 H =>
  ldK .none H t6 fun t7 H =>
  pNeq t7 (.int .i64 (.ofNat 41)) H fun t8 H =>
  guardA t8 false (pFa 1 t3 H fun t10 H =>
  ldK .none H t10 fun t11 H =>
  pLss t11 (.int .i64 (.ofNat 0)) H fun t12 H =>
  S84_3 call t2 t3 t8 t12 H) (S84_3 call t2 t3 t8 U H)
noncomputable def S84 : Ff := ⟨fun call l H => argA2 (fun t0 t1 => S84_4 call t0 t1 H) l⟩
/- slices.IndexFunc[[]gantline/code.Func,gantline/code.Func] -/
noncomputable def S85_0 (call : CallFn) (n : Nat) : AV → AV → AV → AV → AHeap → R :=
  Nat.rec (motive := fun _ => AV → AV → AV → AV → AHeap → R) (fun _ _ _ _ _ => none) (fun _ q0 t0 t1 t7 t8 H => pLss t8 t7 H fun t9 H =>
  onBool t9 (pIa 7 t0 t8 H fun t14 H =>
  ldK (.some 7) H t14 fun t15 H =>
  pV call t1 [t15] H fun t16 H =>
  onBool t16 (some (t8, H)) (pAdd t8 (.int .i64 (.ofNat 1)) H fun t18 H =>
  q0 t0 t1 t7 t18 H)) (some ((.int .i64 (.negSucc 0)), H))) n
noncomputable def S85_1 (call : CallFn) (t0 t1 : AV) (H : AHeap) : R :=
  pO (aLen .sl H t0) H fun t7 H =>
  S85_0 call 1000000 t0 t1 t7 (.int .i64 (.ofNat 0)) H
noncomputable def S85 : Ff := ⟨fun call l H => argA2 (fun t0 t1 => S85_1 call t0 t1 H) l⟩
/- gantline/live.Maps -/
noncomputable def S86_0 (_ : CallFn) (n : Nat) : AV → AV → AV → AV → AHeap → R :=
  Nat.rec (motive := fun _ => AV → AV → AV → AV → AHeap → R) (fun _ _ _ _ _ => none) (fun _ q0 t5 t8 t34 t35 H => pLss t35 t34 H fun t36 H =>
  onBool t36 (pIa 1 t8 t35 H fun t40 H =>
  ldK .none H t40 fun t41 H =>
  pAnd t41 t5 H fun t43 H =>
  pIa 1 t8 t35 H fun t44 H =>
  stK 1 H t44 t43 fun _ H =>
  pAdd t35 (.int .i64 (.ofNat 1)) H fun t45 H =>
  q0 t5 t8 t34 t45 H) (some (t8, H))) n
noncomputable def S86_1 (call : CallFn) (t2 t3 t5 : AV) (H : AHeap) : R :=
  ldK (.some 6) H t2 fun t30 H =>
  ldK (.some 7) H t3 fun t31 H =>
  pC call 152 [t30, t31] H fun t32 H =>
  pO (aLen .sl H t32) H fun t34 H =>
  S86_0 call 1000000 t5 t32 t34 (.int .i64 (.ofNat 0)) H
noncomputable def S86_3 (_ : CallFn) (q1 : AV → AV → AV → AV → AV → AV → AHeap → R) (t2 t3 t5 t16 t17 t18 : AV) (H : AHeap) : R :=
  pAdd t18 (.int .i64 (.ofNat 1)) H fun t29 H =>
  q1 t2 t3 t5 t16 t17 t29 H
noncomputable def S86_2 (call : CallFn) (n : Nat) : AV → AV → AV → AV → AV → AV → AHeap → R :=
  Nat.rec (motive := fun _ => AV → AV → AV → AV → AV → AV → AHeap → R) (fun _ _ _ _ _ _ _ => none) (fun _ q1 t2 t3 t5 t16 t17 t18 H => pLss t18 t17 H fun t19 H =>
  onBool t19 (pIa 1 t16 t18 H fun t21 H =>
  ldK .none H t21 fun t22 H =>
  onBool t22 (pConv .u64 t18 H fun t26 H =>
  pO (aBin .shl (.int .u64 (.ofNat 1)) t26) H fun t27 H =>
  pOr t5 t27 H fun t28 H =>
  S86_3 call q1 t2 t3 t28 t16 t17 t18 H) (S86_3 call q1 t2 t3 t5 t16 t17 t18 H)) (S86_1 call t2 t3 t5 H)) n
noncomputable def S86_4 (call : CallFn) (t0 t1 : AV) (H : AHeap) : R :=
  pBox t0 H fun t2 H =>
  pBox t1 H fun t3 H =>
  pFa 4 t3 H fun t10 H =>
  ldK .none H t10 fun t11 H =>
  pFa 4 t3 H fun t12 H =>
  ldK .none H t12 fun t13 H =>
  pO (aLen .sl H t13) H fun t14 H =>
  pO (aMinMax false t14 (.int .i64 (.ofNat 64))) H fun t15 H =>
  pO (aSlice 1 H t11 .none (.some t15) .none) H fun t16 H =>
  pO (aLen .sl H t16) H fun t17 H =>
  S86_2 call 1000000 t2 t3 (.int .u64 (.ofNat 0)) t16 t17 (.int .i64 (.ofNat 0)) H
noncomputable def S86 : Ff := ⟨fun call l H => argA2 (fun t0 t1 => S86_4 call t0 t1 H) l⟩
/- gantline/fresh.Sets -/
noncomputable def S87_1 (call : CallFn) (q0 : AV → AV → AV → AV → AV → AHeap → R) (t5 t16 t18 t94 t95 t96 : AV) (H : AHeap) : R :=
  pC call 153 [t18] H fun t105 H =>
  pN (aBsl 1 1 [.nilsl] [(0, 1, t105)]) H fun t106 H =>
  pW (aApp 1 24 H t16 t106) fun t107 H =>
  pAdd t96 (.int .i64 (.ofNat 1)) H fun t108 H =>
  q0 t5 t107 t94 t95 t108 H
noncomputable def S87_0 (call : CallFn) (n : Nat) : AV → AV → AV → AV → AV → AHeap → R :=
  Nat.rec (motive := fun _ => AV → AV → AV → AV → AV → AHeap → R) (fun _ _ _ _ _ _ => none) (fun _ q0 t5 t16 t94 t95 t96 H => pLss t96 t95 H fun t97 H =>
  onBool t97 (pIa 1 t94 t96 H fun t98 H =>
  ldK .none H t98 fun t99 H =>
  pO (aEq false .sl t99 .nilsl) H fun t101 H =>
  onBool t101 (S87_1 call q0 t5 t16 t5 t94 t95 t96 H) (S87_1 call q0 t5 t16 t99 t94 t95 t96 H)) (some (t16, H))) n
noncomputable def S87_2 (call : CallFn) (t5 t6 : AV) (H : AHeap) : R :=
  pO (aLen .sl H t6) H fun t95 H =>
  S87_0 call 1000000 t5 .nilsl t6 t95 (.int .i64 (.ofNat 0)) H
noncomputable def S87_5 (_ : CallFn) (q2 : AV → AV → AV → AV → AV → AV → AV → AV → AHeap → R) (t2 t3 t5 t6 t7 t36 t37 t38 : AV) (H : AHeap) : R :=
  pAdd t38 (.int .i64 (.ofNat 1)) H fun t93 H =>
  q2 t2 t3 t5 t6 t7 t36 t37 t93 H
noncomputable def S87_7 (_ : CallFn) (q3 : AV → AV → AV → AV → AV → AV → AV → AV → AV → AV → AV → AV → AHeap → R) (t2 t3 t5 t6 t7 t11 t36 t37 t38 t65 t66 t67 : AV) (H : AHeap) : R :=
  pAdd t67 (.int .i64 (.ofNat 1)) H fun t92 H =>
  q3 t2 t3 t5 t6 t7 t11 t36 t37 t38 t65 t66 t92 H
noncomputable def S87_6 (call : CallFn) (q2 : AV → AV → AV → AV → AV → AV → AV → AV → AHeap → R) (n : Nat) : AV → AV → AV → AV → AV → AV → AV → AV → AV → AV → AV → AV → AHeap → R :=
  Nat.rec (motive := fun _ => AV → AV → AV → AV → AV → AV → AV → AV → AV → AV → AV → AV → AHeap → R) (fun _ _ _ _ _ _ _ _ _ _ _ _ _ => none) (fun _ q3 t2 t3 t5 t6 t7 t11 t36 t37 t38 t65 t66 t67 H => pLss t67 t66 H fun t68 H =>
  onBool t68 (pIa 1 t65 t67 H fun t69 H =>
  ldK .none H t69 fun t70 H =>
  pIa 1 t6 t70 H fun t73 H =>
  ldK .none H t73 fun t74 H =>
  pO (aEq false .sl t74 .nilsl) H fun t76 H =>
  onBool t76 (pIa 1 t6 t70 H fun t80 H =>
  stK 1 H t80 t11 fun _ H =>
  S87_7 call q3 t2 t3 t5 t6 (.bool true) t11 t36 t37 t38 t65 t66 t67 H) (pC call 158 [t74, t11] H fun t83 H =>
  pC call 159 [t83, t74] H fun t86 H =>
  pO (aUn .not t86) H fun t87 H =>
  onBool t87 (pIa 1 t6 t70 H fun t91 H =>
  stK 1 H t91 t83 fun _ H =>
  S87_7 call q3 t2 t3 t5 t6 (.bool true) t11 t36 t37 t38 t65 t66 t67 H) (S87_7 call q3 t2 t3 t5 t6 t7 t11 t36 t37 t38 t65 t66 t67 H))) (S87_5 call q2 t2 t3 t5 t6 t7 t36 t37 t38 H)) n
noncomputable def S87_4 (call : CallFn) (q1 : AV → AV → AV → AV → AV → AHeap → R) (n : Nat) : AV → AV → AV → AV → AV → AV → AV → AV → AHeap → R :=
  Nat.rec (motive := fun _ => AV → AV → AV → AV → AV → AV → AV → AV → AHeap → R) (fun _ _ _ _ _ _ _ _ _ => none) (fun _ q2 t2 t3 t5 t6 t7 t36 t37 t38 H => pLss t38 t37 H fun t39 H =>
  onBool t39 (pIa 5 t36 t38 H fun t41 H =>
  ldK (.some 5) H t41 fun t42 H =>
  pNew [(.int .i64 (.ofNat 0)), (.int .i64 (.ofNat 0)), (.int .i64 (.ofNat 0)), (.int .i64 (.ofNat 0)), (.int .i64 (.ofNat 0))] H fun t9 H =>
  stK 5 H t9 t42 fun _ H =>
  pIa 1 t6 t38 H fun t45 H =>
  ldK .none H t45 fun t46 H =>
  pO (aEq false .sl t46 .nilsl) H fun t47 H =>
  onBool t47 (S87_5 call q2 t2 t3 t5 t6 t7 t36 t37 t38 H) (pIa 1 t6 t38 H fun t50 H =>
  ldK .none H t50 fun t51 H =>
  pC call 153 [t51] H fun t52 H =>
  ldK (.some 6) H t2 fun t54 H =>
  ldK (.some 5) H t9 fun t55 H =>
  pC call 155 [t54, t55] H fun t56 H =>
  pC call 154 [t52, t56] H fun _ H =>
  ldK (.some 6) H t2 fun t58 H =>
  ldK (.some 5) H t9 fun t59 H =>
  pC call 156 [t58, t59, t52] H fun t61 H =>
  ldK (.some 6) H t2 fun t62 H =>
  ldK (.some 7) H t3 fun t63 H =>
  pC call 157 [t62, t63, t38] H fun t65 H =>
  pO (aLen .sl H t65) H fun t66 H =>
  S87_6 call q2 1000000 t2 t3 t5 t6 t7 t61 t36 t37 t38 t65 t66 (.int .i64 (.ofNat 0)) H)) (q1 t2 t3 t5 t6 t7 H)) n
noncomputable def S87_3 (call : CallFn) (n : Nat) : AV → AV → AV → AV → AV → AHeap → R :=
  Nat.rec (motive := fun _ => AV → AV → AV → AV → AV → AHeap → R) (fun _ _ _ _ _ _ => none) (fun _ q1 t2 t3 t5 t6 t7 H => onBool t7 (pFa 5 t3 H fun t35 H =>
  ldK .none H t35 fun t36 H =>
  pO (aLen .sl H t36) H fun t37 H =>
  S87_4 call q1 1000000 t2 t3 t5 t6 (.bool false) t36 t37 (.int .i64 (.ofNat 0)) H) (S87_2 call t5 t6 H)) n
noncomputable def S87_8 (call : CallFn) (t0 t1 : AV) (H : AHeap) : R :=
  pBox t0 H fun t2 H =>
  pBox t1 H fun t3 H =>
  pFa 2 t3 H fun t19 H =>
  ldK .none H t19 fun t20 H =>
  pO (aMinMax true t20 (.int .i64 (.ofNat 0))) H fun t21 H =>
  pO (aMinMax false t21 (.int .i64 (.ofNat 64))) H fun t22 H =>
  pN (aMksl 3 16 [(.bool false), (.bool false), (.int .u64 (.ofNat 0))] t22 t22) H fun t23 H =>
  pFa 5 t3 H fun t24 H =>
  ldK .none H t24 fun t25 H =>
  pO (aLen .sl H t25) H fun t26 H =>
  pN (aMksl 1 24 [.nilsl] t26 t26) H fun t27 H =>
  pO (aLen .sl H t27) H fun t29 H =>
  pGtr t29 (.int .i64 (.ofNat 0)) H fun t30 H =>
  onBool t30 (pIa 1 t27 (.int .i64 (.ofNat 0)) H fun t33 H =>
  stK 1 H t33 t23 fun _ H =>
  S87_3 call 1000000 t2 t3 t23 t27 (.bool true) H) (S87_3 call 1000000 t2 t3 t23 t27 (.bool true) H)
noncomputable def S87 : Ff := ⟨fun call l H => argA2 (fun t0 t1 => S87_8 call t0 t1 H) l⟩
/- internal/strconv.small -/
noncomputable def S89_0 (_ : CallFn) (t0 : AV) (H : AHeap) : R :=
  pLss t0 (.int .i64 (.ofNat 10)) H fun t4 H =>
  onBool t4 (pAdd t0 (.int .i64 (.ofNat 1)) H fun t7 H =>
  pO (aSliceS (.str [48, 49, 50, 51, 52, 53, 54, 55, 56, 57, 97, 98, 99, 100, 101, 102, 103, 104, 105, 106, 107, 108, 109, 110, 111, 112, 113, 114, 115, 116, 117, 118, 119, 120, 121, 122]) (.some t0) (.some t7)) H fun t8 H =>
  some (t8, H)) (pMul t0 (.int .i64 (.ofNat 2)) H fun t10 H =>
  pMul t0 (.int .i64 (.ofNat 2)) H fun t12 H =>
  pAdd t12 (.int .i64 (.ofNat 2)) H fun t13 H =>
  pO (aSliceS (.str [48, 48, 48, 49, 48, 50, 48, 51, 48, 52, 48, 53, 48, 54, 48, 55, 48, 56, 48, 57, 49, 48, 49, 49, 49, 50, 49, 51, 49, 52, 49, 53, 49, 54, 49, 55, 49, 56, 49, 57, 50, 48, 50, 49, 50, 50, 50, 51, 50, 52, 50, 53, 50, 54, 50, 55, 50, 56, 50, 57, 51, 48, 51, 49, 51, 50, 51, 51, 51, 52, 51, 53, 51, 54, 51, 55, 51, 56, 51, 57, 52, 48, 52, 49, 52, 50, 52, 51, 52, 52, 52, 53, 52, 54, 52, 55, 52, 56, 52, 57, 53, 48, 53, 49, 53, 50, 53, 51, 53, 52, 53, 53, 53, 54, 53, 55, 53, 56, 53, 57, 54, 48, 54, 49, 54, 50, 54, 51, 54, 52, 54, 53, 54, 54, 54, 55, 54, 56, 54, 57, 55, 48, 55, 49, 55, 50, 55, 51, 55, 52, 55, 53, 55, 54, 55, 55, 55, 56, 55, 57, 56, 48, 56, 49, 56, 50, 56, 51, 56, 52, 56, 53, 56, 54, 56, 55, 56, 56, 56, 57, 57, 48, 57, 49, 57, 50, 57, 51, 57, 52, 57, 53, 57, 54, 57, 55, 57, 56, 57, 57]) (.some t10) (.some t13)) H fun t14 H =>
  some (t14, H))
noncomputable def S89 : Ff := ⟨fun call l H => argA1 (fun t0 => S89_0 call t0 H) l⟩
/- gantline/verify.Module -/
noncomputable def S93_0 (call : CallFn) (t0 : AV) (H : AHeap) : R :=
  pBox t0 H fun t1 H =>
  ldK (.some 6) H t1 fun t6 H =>
  pC call 167 [t6] H fun t7 H =>
  pExt t7 0 H fun t8 H =>
  pExt t7 1 H fun t9 H =>
  pNew [(.int .i64 (.ofNat 0)), (.int .i64 (.ofNat 0)), (.int .i64 (.ofNat 0))] H fun t3 H =>
  stK 3 H t3 t8 fun _ H =>
  some (t9, H)
noncomputable def S93 : Ff := ⟨fun call l H => argA1 (fun t0 => S93_0 call t0 H) l⟩
/- gantline/heap.New -/
noncomputable def S94_0 (call : CallFn) (t1 t8 : AV) (H : AHeap) : R :=
  pC call 144 [t1] H fun t42 H =>
  pO (aNil t8) H fun t43 H =>
  pFa 1 t43 H fun t44 H =>
  stK 1 H t44 t42 fun _ H =>
  some (.tup [t8, (.int .i64 (.ofNat 0))], H)
noncomputable def S94_1 (call : CallFn) (n : Nat) : AV → AV → AV → AV → AV → AV → AHeap → R :=
  Nat.rec (motive := fun _ => AV → AV → AV → AV → AV → AV → AHeap → R) (fun _ _ _ _ _ _ _ => none) (fun _ q0 t1 t6 t8 t24 t25 t26 H => pLss t26 t25 H fun t27 H =>
  onBool t27 (pIa 3 t24 t26 H fun t28 H =>
  ldK (.some 3) H t28 fun t29 H =>
  pNew [(.int .i64 (.ofNat 0)), (.int .i64 (.ofNat 0)), (.int .u64 (.ofNat 0))] H fun t10 H =>
  stK 3 H t10 t29 fun _ H =>
  ldK (.some 3) H t10 fun t33 H =>
  pC call 169 [t6] H fun t32 H =>
  andR (andB (ckV (aLoad (.some 3) H t10) t33) true) (
  pC call 170 [t32, t33] H fun t34 H =>
  pExt t34 0 H fun _ H =>
  pExt t34 1 H fun t36 H =>
  pNeq t36 (.int .i64 (.ofNat 0)) H fun t38 H =>
  onBool t38 (some (.tup [.nilp, (.int .i64 (.ofNat 1))], H)) (pAdd t26 (.int .i64 (.ofNat 1)) H fun t39 H =>
  q0 t1 t6 t8 t24 t25 t39 H))) (S94_0 call t1 t8 H)) n
noncomputable def S94_2 (call : CallFn) (t0 t1 : AV) (H : AHeap) : R :=
  pC call 168 [t0] H fun t15 H =>
  pExt t15 0 H fun t16 H =>
  pExt t15 1 H fun t17 H =>
  pNeq t17 (.int .i64 (.ofNat 0)) H fun t19 H =>
  onBool t19 (some (.tup [.nilp, t17], H)) (pO (someAgg (aFill [.nilp, .nilsl, (.int .i64 (.ofNat 0))] [(0, 1, t16)])) H fun t22 H =>
  pBox t22 H fun t23 H =>
  pO (aLen .sl H t1) H fun t25 H =>
  S94_1 call 1000000 t1 t16 t23 t1 t25 (.int .i64 (.ofNat 0)) H)
noncomputable def S94 : Ff := ⟨fun call l H => argA2 (fun t0 t1 => S94_2 call t0 t1 H) l⟩
/- gantline/vm.clone -/
noncomputable def S95_0 (_ : CallFn) (t1 t2 : AV) (H : AHeap) : R :=
  ldK (.some 6) H t1 fun t60 H =>
  stK 6 H t2 t60 fun _ H =>
  ob (allM (fun o => o) [aLoad (.some 6) H t2]) fun vs => some (resV vs, H)
noncomputable def S95_1 (call : CallFn) (n : Nat) : AV → AV → AV → AV → AHeap → R :=
  Nat.rec (motive := fun _ => AV → AV → AV → AV → AHeap → R) (fun _ _ _ _ _ => none) (fun _ q0 t1 t2 t27 t28 H => pLss t28 t27 H fun t29 H =>
  onBool t29 (pFa 4 t1 H fun t31 H =>
  ldK .none H t31 fun t32 H =>
  pIa 7 t32 t28 H fun t34 H =>
  pO (aNil t34) H fun t39 H =>
  pFa 4 t39 H fun t40 H =>
  ldK .none H t40 fun t41 H =>
  pO (aNil t34) H fun t44 H =>
  pFa 5 t44 H fun t45 H =>
  ldK .none H t45 fun t46 H =>
  pO (aNil t34) H fun t49 H =>
  pFa 6 t49 H fun t50 H =>
  ldK .none H t50 fun t51 H =>
  pC call 145 [t41] H fun t42 H =>
  andR (andB (ckV (aLoad .none H t45) t46) (andB (ckV (aLoad .none H t50) t51) true)) (
  pC call 149 [t46] H fun t47 H =>
  andR (andB (ckV (aLoad .none H t50) t51) true) (
  pC call 150 [t51] H fun t52 H =>
  pO (aNil t34) H fun t53 H =>
  pFa 4 t53 H fun t54 H =>
  stK 1 H t54 t42 fun _ H =>
  pO (aNil t34) H fun t55 H =>
  pFa 5 t55 H fun t56 H =>
  stK 1 H t56 t47 fun _ H =>
  pO (aNil t34) H fun t57 H =>
  pFa 6 t57 H fun t58 H =>
  stK 1 H t58 t52 fun _ H =>
  pAdd t28 (.int .i64 (.ofNat 1)) H fun t59 H =>
  q0 t1 t2 t27 t59 H))) (S95_0 call t1 t2 H)) n
noncomputable def S95_2 (call : CallFn) (t0 : AV) (H : AHeap) : R :=
  pBox t0 H fun t1 H =>
  pNew [.nilsl, .nilsl, .nilsl, .nilsl, .nilsl, (.int .i64 (.ofNat 0))] H fun t2 H =>
  pFa 0 t1 H fun t5 H =>
  ldK .none H t5 fun t6 H =>
  pFa 1 t1 H fun t8 H =>
  ldK .none H t8 fun t9 H =>
  pFa 2 t1 H fun t11 H =>
  ldK .none H t11 fun t12 H =>
  pFa 3 t1 H fun t14 H =>
  ldK .none H t14 fun t15 H =>
  pC call 144 [t6] H fun t7 H =>
  andR (andB (ckV (aLoad .none H t8) t9) (andB (ckV (aLoad .none H t11) t12) (andB (ckV (aLoad .none H t14) t15) true))) (
  pFa 0 t1 H fun t17 H =>
  pC call 145 [t9] H fun t10 H =>
  andR (andB (ckV (aLoad .none H t11) t12) (andB (ckV (aLoad .none H t14) t15) true)) (
  pC call 146 [t12] H fun t13 H =>
  andR (andB (ckV (aLoad .none H t14) t15) true) (
  pC call 147 [t15] H fun t16 H =>
  stK 1 H t17 t7 fun _ H =>
  pFa 1 t1 H fun t18 H =>
  stK 1 H t18 t10 fun _ H =>
  pFa 2 t1 H fun t19 H =>
  stK 1 H t19 t13 fun _ H =>
  pFa 3 t1 H fun t20 H =>
  stK 1 H t20 t16 fun _ H =>
  pFa 4 t1 H fun t21 H =>
  ldK .none H t21 fun t22 H =>
  pC call 148 [t22] H fun t23 H =>
  pFa 4 t1 H fun t24 H =>
  stK 1 H t24 t23 fun _ H =>
  pFa 4 t1 H fun t25 H =>
  ldK .none H t25 fun t26 H =>
  pO (aLen .sl H t26) H fun t27 H =>
  S95_1 call 1000000 t1 t2 t27 (.int .i64 (.ofNat 0)) H)))
noncomputable def S95 : Ff := ⟨fun call l H => argA1 (fun t0 => S95_2 call t0 H) l⟩
/- gantline/sched.New -/
noncomputable def S96_0 (_ : CallFn) (t0 : AV) (H : AHeap) : R :=
  pBox t0 H fun t1 H =>
  ldK (.some 6) H t1 fun t3 H =>
  pMap H fun t4 H =>
  pO (someAgg (aFill [.nilsl, .nilsl, .nilsl, .nilsl, .nilsl, (.int .i64 (.ofNat 0)), .nilmap, (.int .i64 (.ofNat 0))] [(0, 6, t3), (6, 1, t4)])) H fun t5 H =>
  pBox t5 H fun t6 H =>
  some (t6, H)
noncomputable def S96 : Ff := ⟨fun call l H => argA1 (fun t0 => S96_0 call t0 H) l⟩
/- (*gantline/sched.Table).Add -/
noncomputable def S97_0 (call : CallFn) (t0 t1 t2 : AV) (H : AHeap) : R :=
  pO (aNil t0) H fun t11 H =>
  pFa 6 t11 H fun t12 H =>
  ldK .none H t12 fun t13 H =>
  pO (aLen .map H t13) H fun t14 H =>
  pGeq t14 (.int .i64 (.ofNat 64)) H fun t15 H =>
  onBool t15 (some (.tup [(.int .i64 (.ofNat 0)), (.int .i64 (.ofNat 2))], H)) (pO (aNil t0) H fun t18 H =>
  pFa 0 t18 H fun t19 H =>
  ldK (.some 6) H t19 fun t20 H =>
  pC call 171 [t20, t1, t2] H fun t23 H =>
  pExt t23 0 H fun t24 H =>
  pExt t23 1 H fun t25 H =>
  pNeq t25 (.int .i64 (.ofNat 0)) H fun t27 H =>
  onBool t27 (some (.tup [(.int .i64 (.ofNat 0)), t25], H)) (pO (aNil t0) H fun t30 H =>
  pFa 7 t30 H fun t31 H =>
  ldK .none H t31 fun t32 H =>
  pAdd t32 (.int .i64 (.ofNat 1)) H fun t33 H =>
  pO (aNil t0) H fun t34 H =>
  pFa 7 t34 H fun t35 H =>
  stK 1 H t35 t33 fun _ H =>
  pO (aNil t0) H fun t37 H =>
  pFa 6 t37 H fun t38 H =>
  ldK .none H t38 fun t39 H =>
  pO (aNil t0) H fun t41 H =>
  pFa 7 t41 H fun t42 H =>
  ldK .none H t42 fun t43 H =>
  pW (unitW (aMapUp .int H t39 t43 t24)) fun _ H =>
  pO (aNil t0) H fun t46 H =>
  pFa 7 t46 H fun t47 H =>
  ldK .none H t47 fun t48 H =>
  some (.tup [t48, (.int .i64 (.ofNat 0))], H)))
noncomputable def S97 : Ff := ⟨fun call l H => argA3 (fun t0 t1 t2 => S97_0 call t0 t1 t2 H) l⟩
/- (*gantline/vm.Machine).settle -/
noncomputable def S98_0 (_ : CallFn) (t0 t7 t18 : AV) (H : AHeap) : R :=
  pPick t7 t18 (.bool false) H fun t19 H =>
  onBool t19 (pO (aNil t0) H fun t21 H =>
  pFa 11 t21 H fun t22 H =>
  stK 1 H t22 (.int .i64 (.ofNat 3)) fun _ H =>
  some (.tup [], H)) (some (.tup [], H))
noncomputable def S98_1 (call : CallFn) (t0 t7 t17 : AV) (H : AHeap) : R :=
  guardA t7 true (pEql t17 (.int .i64 (.ofNat 0)) H fun t18 H =>
  S98_0 call t0 t7 t18 H) (S98_0 call t0 t7 U H)
noncomputable def S98_2 (call : CallFn) (t0 t7 t16 : AV) (H : AHeap) : R :=
  guardA t7 true (pO (aLen .sl H t16) H fun t17 H =>
  S98_1 call t0 t7 t17 H) (S98_1 call t0 t7 U H)
noncomputable def S98_3 (call : CallFn) (t0 t7 t11 t15 : AV) (H : AHeap) : R :=
  guardA t7 true (pC call 172 [t11, t15] H fun t16 H =>
  S98_2 call t0 t7 t16 H) (S98_2 call t0 t7 U H)
noncomputable def S98_4 (call : CallFn) (t0 t7 t11 t14 : AV) (H : AHeap) : R :=
  guardA t7 true (ldK .none H t14 fun t15 H =>
  S98_3 call t0 t7 t11 t15 H) (S98_3 call t0 t7 t11 U H)
noncomputable def S98_5 (call : CallFn) (t0 t7 t11 t13 : AV) (H : AHeap) : R :=
  guardA t7 true (pFa 6 t13 H fun t14 H =>
  S98_4 call t0 t7 t11 t14 H) (S98_4 call t0 t7 t11 U H)
noncomputable def S98_6 (call : CallFn) (t0 t7 t11 t12 : AV) (H : AHeap) : R :=
  guardA t7 true (pO (aNil t12) H fun t13 H =>
  S98_5 call t0 t7 t11 t13 H) (S98_5 call t0 t7 t11 U H)
noncomputable def S98_7 (call : CallFn) (t0 t7 t11 : AV) (H : AHeap) : R :=
  guardA t7 true (S98_6 call t0 t7 t11 t0 H) (S98_6 call t0 t7 t11 U H)
noncomputable def S98_8 (call : CallFn) (t0 t7 t10 : AV) (H : AHeap) : R :=
  guardA t7 true (ldK .none H t10 fun t11 H =>
  S98_7 call t0 t7 t11 H) (S98_7 call t0 t7 U H)
noncomputable def S98_9 (call : CallFn) (t0 t7 t9 : AV) (H : AHeap) : R :=
  guardA t7 true (pFa 7 t9 H fun t10 H =>
  S98_8 call t0 t7 t10 H) (S98_8 call t0 t7 U H)
noncomputable def S98_10 (call : CallFn) (t0 t7 t8 : AV) (H : AHeap) : R :=
  guardA t7 true (pO (aNil t8) H fun t9 H =>
  S98_9 call t0 t7 t9 H) (S98_9 call t0 t7 U H)
noncomputable def S98_11 (call : CallFn) (t0 : AV) (H : AHeap) : R :=
  pO (aNil t0) H fun t3 H =>
  pFa 11 t3 H fun t4 H =>
  ldK .none H t4 fun t5 H =>
  pEql t5 (.int .i64 (.ofNat 0)) H fun t6 H =>
  guardA t6 true (S98_10 call t0 t6 t0 H) (S98_10 call t0 t6 U H)
noncomputable def S98 : Ff := ⟨fun call l H => argA1 (fun t0 => S98_11 call t0 H) l⟩
/- (*gantline/vm.Machine).End -/
noncomputable def S99_0 (_ : CallFn) (t0 : AV) (H : AHeap) : R :=
  pO (aNil t0) H fun t5 H =>
  pFa 11 t5 H fun t6 H =>
  ldK .none H t6 fun t7 H =>
  pO (aNil t0) H fun t9 H =>
  pFa 12 t9 H fun t10 H =>
  ldK .none H t10 fun t11 H =>
  some (.tup [t7, t11], H)
noncomputable def S99 : Ff := ⟨fun call l H => argA1 (fun t0 => S99_0 call t0 H) l⟩
/- (*gantline/vm.Machine).Out -/
noncomputable def S104_0 (call : CallFn) (t0 : AV) (H : AHeap) : R :=
  pO (aNil t0) H fun t4 H =>
  pFa 9 t4 H fun t5 H =>
  ldK .none H t5 fun t6 H =>
  pC call 146 [t6] H fun t7 H =>
  some (t7, H)
noncomputable def S104 : Ff := ⟨fun call l H => argA1 (fun t0 => S104_0 call t0 H) l⟩
/- (*gantline/vm.Machine).Heap -/
noncomputable def S105_0 (_ : CallFn) (t0 : AV) (H : AHeap) : R :=
  pO (aNil t0) H fun t4 H =>
  pFa 6 t4 H fun t5 H =>
  ldK .none H t5 fun t6 H =>
  some (t6, H)
noncomputable def S105 : Ff := ⟨fun call l H => argA1 (fun t0 => S105_0 call t0 H) l⟩
/- (*gantline/heap.Heap).Cycle -/
noncomputable def S106_0 (_ : CallFn) (t0 : AV) (H : AHeap) : R :=
  pO (aNil t0) H fun t4 H =>
  pFa 0 t4 H fun t5 H =>
  ldK .none H t5 fun t6 H =>
  some (t6, H)
noncomputable def S106 : Ff := ⟨fun call l H => argA1 (fun t0 => S106_0 call t0 H) l⟩
/- (*gantline/cycle.Cycle).Done -/
noncomputable def S107_0 (_ : CallFn) (t0 : AV) (H : AHeap) : R :=
  pO (aNil t0) H fun t4 H =>
  pFa 6 t4 H fun t5 H =>
  ldK .none H t5 fun t6 H =>
  some (t6, H)
noncomputable def S107 : Ff := ⟨fun call l H => argA1 (fun t0 => S107_0 call t0 H) l⟩
/- (*gantline/heap.Heap).Forced -/
noncomputable def S108_0 (_ : CallFn) (t0 : AV) (H : AHeap) : R :=
  pO (aNil t0) H fun t4 H =>
  pFa 2 t4 H fun t5 H =>
  ldK .none H t5 fun t6 H =>
  some (t6, H)
noncomputable def S108 : Ff := ⟨fun call l H => argA1 (fun t0 => S108_0 call t0 H) l⟩
/- (*gantline/vm.Machine).Acts -/
noncomputable def S109_0 (call : CallFn) (t0 : AV) (H : AHeap) : R :=
  pO (aNil t0) H fun t4 H =>
  pFa 10 t4 H fun t5 H =>
  ldK .none H t5 fun t6 H =>
  pC call 182 [t6] H fun t7 H =>
  some (t7, H)
noncomputable def S109 : Ff := ⟨fun call l H => argA1 (fun t0 => S109_0 call t0 H) l⟩
/- internal/stringslite.Index -/
noncomputable def S114_1 (call : CallFn) (q0 : AV → AV → AV → AV → AV → AV → AV → AV → AHeap → R) (t0 t1 t5 t6 t7 t8 t9 t10 t128 t131 : AV) (H : AHeap) : R :=
  pPick t128 t131 (.bool false) H fun t132 H =>
  onBool t132 (pO (aSliceS t0 (.some t8) .none) H fun t135 H =>
  pC call 187 [t135, t1] H fun t137 H =>
  pLss t137 (.int .i64 (.ofNat 0)) H fun t139 H =>
  onBool t139 (some ((.int .i64 (.negSucc 0)), H)) (pAdd t8 t137 H fun t142 H =>
  some (t142, H))) (q0 t0 t1 t5 t6 t7 t8 t9 t10 H)
noncomputable def S114_2 (call : CallFn) (q0 : AV → AV → AV → AV → AV → AV → AV → AV → AHeap → R) (t0 t1 t5 t6 t7 t8 t9 t10 t121 t126 : AV) (H : AHeap) : R :=
  pPick t121 t126 (.bool false) H fun t127 H =>
  guardA t127 true (pLss t8 t9 H fun t131 H =>
  S114_1 call q0 t0 t1 t5 t6 t7 t8 t9 t10 t127 t131 H) (S114_1 call q0 t0 t1 t5 t6 t7 t8 t9 t10 t127 U H)
noncomputable def S114_3 (call : CallFn) (q0 : AV → AV → AV → AV → AV → AV → AV → AV → AHeap → R) (t0 t1 t5 t6 t7 t8 t9 t10 t102 t106 : AV) (H : AHeap) : R :=
  pPick t102 t106 (.bool false) H fun t107 H =>
  onBool t107 (pO (aSliceS t0 (.some t8) .none) H fun t110 H =>
  pC call 185 [t110, t1] H fun t112 H =>
  pGeq t112 (.int .i64 (.ofNat 0)) H fun t114 H =>
  onBool t114 (pAdd t112 t8 H fun t117 H =>
  some (t117, H)) (some ((.int .i64 (.negSucc 0)), H))) (none)
noncomputable def S114_4 (_ : CallFn) (q0 : AV → AV → AV → AV → AV → AV → AV → AV → AHeap → R) (t0 t1 t5 t6 t7 t8 t9 t10 t84 t92 : AV) (H : AHeap) : R :=
  pPick t84 t92 (.bool false) H fun t93 H =>
  onBool t93 (some (t8, H)) (pAdd t8 (.int .i64 (.ofNat 1)) H fun _ H =>
  pAdd t10 (.int .i64 (.ofNat 1)) H fun _ _ =>
  none)
noncomputable def S114_5 (call : CallFn) (q0 : AV → AV → AV → AV → AV → AV → AV → AV → AHeap → R) (t0 t1 t5 t6 t7 t8 t9 t10 : AV) (H : AHeap) : R :=
  pAdd t8 (.int .i64 (.ofNat 1)) H fun t80 H =>
  pO (aIdxS t0 t80) H fun t81 H =>
  pEql t81 t7 H fun t83 H =>
  guardA t83 true (pAdd t8 t5 H fun t89 H =>
  pO (aSliceS t0 (.some t8) (.some t89)) H fun t90 H =>
  pEql t90 t1 H fun t92 H =>
  S114_4 call q0 t0 t1 t5 t6 t7 t8 t9 t10 t83 t92 H) (S114_4 call q0 t0 t1 t5 t6 t7 t8 t9 t10 t83 U H)
noncomputable def S114_0 (call : CallFn) (n : Nat) : AV → AV → AV → AV → AV → AV → AV → AV → AHeap → R :=
  Nat.rec (motive := fun _ => AV → AV → AV → AV → AV → AV → AV → AV → AHeap → R) (fun _ _ _ _ _ _ _ _ _ => none) (fun _ q0 t0 t1 t5 t6 t7 t8 t9 t10 H => pLss t8 t9 H fun t59 H =>
  onBool t59 (pO (aIdxS t0 t8) H fun t62 H =>
  pNeq t62 t6 H fun t64 H =>
  onBool t64 (pAdd t8 (.int .i64 (.ofNat 1)) H fun t67 H =>
  pO (aSliceS t0 (.some t67) (.some t9)) H fun t69 H =>
  pC call 184 [t69, t6] H fun t71 H =>
  pLss t71 (.int .i64 (.ofNat 0)) H fun t73 H =>
  onBool t73 (some ((.int .i64 (.negSucc 0)), H)) (pAdd t71 (.int .i64 (.ofNat 1)) H fun t76 H =>
  pAdd t8 t76 H fun t77 H =>
  S114_5 call q0 t0 t1 t5 t6 t7 t77 t9 t10 H)) (S114_5 call q0 t0 t1 t5 t6 t7 t8 t9 t10 H)) (some ((.int .i64 (.negSucc 0)), H))) n
noncomputable def S114_6 (call : CallFn) (t0 t1 t5 t40 t43 : AV) (H : AHeap) : R :=
  pPick t40 t43 (.bool false) H fun t44 H =>
  onBool t44 (pC call 185 [t0, t1] H fun t47 H =>
  some (t47, H)) (pO (aIdxS t1 (.int .i64 (.ofNat 0))) H fun t49 H =>
  pO (aIdxS t1 (.int .i64 (.ofNat 1))) H fun t51 H =>
  pO (aLen .str H t0) H fun t53 H =>
  pSub t53 t5 H fun t55 H =>
  pAdd t55 (.int .i64 (.ofNat 1)) H fun t56 H =>
  S114_0 call 1000000 t0 t1 t5 t49 t51 (.int .i64 (.ofNat 0)) t56 (.int .i64 (.ofNat 0)) H)
noncomputable def S114_7 (call : CallFn) (t0 t1 t5 t19 t22 : AV) (H : AHeap) : R :=
  pPick t19 (.bool true) t22 H fun t23 H =>
  onBool t23 (some ((.int .i64 (.ofNat 0)), H)) (pEql t5 (.int .i64 (.ofNat 1)) H fun t26 H =>
  onBool t26 (pO (aIdxS t1 (.int .i64 (.ofNat 0))) H fun t29 H =>
  pC call 184 [t0, t29] H fun t30 H =>
  some (t30, H)) (pO (aLen .str H t0) H fun t34 H =>
  pGeq t5 t34 H fun t35 H =>
  onBool t35 (some ((.int .i64 (.negSucc 0)), H)) (none)))
noncomputable def S114_8 (call : CallFn) (t0 t1 : AV) (H : AHeap) : R :=
  pO (aLen .str H t1) H fun t15 H =>
  pEql t15 (.int .i64 (.ofNat 0)) H fun t18 H =>
  guardA t18 false (pEql t1 t0 H fun t22 H =>
  S114_7 call t0 t1 t15 t18 t22 H) (S114_7 call t0 t1 t15 t18 U H)
noncomputable def S114 : Ff := ⟨fun call l H => argA2 (fun t0 t1 => S114_8 call t0 t1 H) l⟩
/- internal/strconv.Atoi -/
noncomputable def S115_0 (call : CallFn) (t0 : AV) (H : AHeap) : R :=
  pC call 188 [t0, (.int .i64 (.ofNat 10)), (.int .i64 (.ofNat 0))] H fun t72 H =>
  pExt t72 0 H fun t73 H =>
  pExt t72 1 H fun t74 H =>
  some (.tup [t73, t74], H)
noncomputable def S115_1 (_ : CallFn) (t5 t6 : AV) (H : AHeap) : R :=
  pO (aIdxS t5 (.int .i64 (.ofNat 0))) H fun t65 H =>
  pEql t65 (.int .u8 (.ofNat 45)) H fun t66 H =>
  onBool t66 (pO (aUn .neg t6) H fun t68 H =>
  some (.tup [t68, .nilif], H)) (some (.tup [t6, .nilif], H))
noncomputable def S115_2 (call : CallFn) (n : Nat) : AV → AV → AV → AV → AV → AHeap → R :=
  Nat.rec (motive := fun _ => AV → AV → AV → AV → AV → AHeap → R) (fun _ _ _ _ _ _ => none) (fun _ q0 t5 t6 t47 t48 t49 H => pLss t49 t48 H fun t50 H =>
  onBool t50 (pIa 1 t47 t49 H fun t51 H =>
  ldK .none H t51 fun t52 H =>
  pSub t52 (.int .u8 (.ofNat 48)) H fun t54 H =>
  pGtr t54 (.int .u8 (.ofNat 9)) H fun t56 H =>
  onBool t56 (some (.tup [(.int .i64 (.ofNat 0)), (.iface 296 (.int .i64 (.ofNat 2)))], H)) (pMul t6 (.int .i64 (.ofNat 10)) H fun t59 H =>
  pConv .i64 t54 H fun t61 H =>
  pAdd t59 t61 H fun t62 H =>
  pAdd t49 (.int .i64 (.ofNat 1)) H fun t63 H =>
  q0 t5 t62 t47 t48 t63 H)) (S115_1 call t5 t6 H)) n
noncomputable def S115_3 (call : CallFn) (t0 t5 : AV) (H : AHeap) : R :=
  pW (aS2b H t0) fun t47 H =>
  pO (aLen .sl H t47) H fun t48 H =>
  S115_2 call 1000000 t5 (.int .i64 (.ofNat 0)) t47 t48 (.int .i64 (.ofNat 0)) H
noncomputable def S115_4 (call : CallFn) (t0 t5 t35 t38 : AV) (H : AHeap) : R :=
  pPick t35 (.bool true) t38 H fun t39 H =>
  onBool t39 (pO (aSliceS t0 (.some (.int .i64 (.ofNat 1))) .none) H fun t41 H =>
  pO (aLen .str H t41) H fun t43 H =>
  pLss t43 (.int .i64 (.ofNat 1)) H fun t44 H =>
  onBool t44 (some (.tup [(.int .i64 (.ofNat 0)), (.iface 296 (.int .i64 (.ofNat 2)))], H)) (S115_3 call t41 t5 H)) (S115_3 call t0 t5 H)
noncomputable def S115_5 (call : CallFn) (t0 t21 t29 : AV) (H : AHeap) : R :=
  pPick t21 (.bool true) t29 H fun t30 H =>
  onBool t30 (pO (aIdxS t0 (.int .i64 (.ofNat 0))) H fun t33 H =>
  pEql t33 (.int .u8 (.ofNat 45)) H fun t34 H =>
  guardA t34 false (pO (aIdxS t0 (.int .i64 (.ofNat 0))) H fun t37 H =>
  pEql t37 (.int .u8 (.ofNat 43)) H fun t38 H =>
  S115_4 call t0 t0 t34 t38 H) (S115_4 call t0 t0 t34 U H)) (S115_0 call t0 H)
noncomputable def S115_6 (call : CallFn) (t0 t21 t22 t28 : AV) (H : AHeap) : R :=
  guardA t21 false (pPick t22 t28 (.bool false) H fun t29 H =>
  S115_5 call t0 t21 t29 H) (S115_5 call t0 t21 U H)
noncomputable def S115_7 (call : CallFn) (t0 t21 t22 t25 t27 : AV) (H : AHeap) : R :=
  guardA t22 true (pPick t25 t27 (.bool false) H fun t28 H =>
  S115_6 call t0 t21 t22 t28 H) (S115_6 call t0 t21 t22 U H)
noncomputable def S115_8 (call : CallFn) (t0 t4 t21 t22 t25 : AV) (H : AHeap) : R :=
  guardA t25 true (pLss t4 (.int .i64 (.ofNat 19)) H fun t27 H =>
  S115_7 call t0 t21 t22 t25 t27 H) (S115_7 call t0 t21 t22 t25 U H)
noncomputable def S115_9 (call : CallFn) (t0 t4 t21 t22 : AV) (H : AHeap) : R :=
  guardA t22 true (pLss (.int .i64 (.ofNat 0)) t4 H fun t24 H =>
  S115_8 call t0 t4 t21 t22 t24 H) (S115_8 call t0 t4 t21 t22 U H)
noncomputable def S115_10 (call : CallFn) (t0 t4 t13 t19 : AV) (H : AHeap) : R :=
  pPick t13 t19 (.bool false) H fun t20 H =>
  guardA t20 false (S115_9 call t0 t4 t20 (.bool true) H) (S115_9 call t0 t4 t20 U H)
noncomputable def S115_11 (call : CallFn) (t0 t4 t13 t16 t18 : AV) (H : AHeap) : R :=
  guardA t13 true (pPick t16 t18 (.bool false) H fun t19 H =>
  S115_10 call t0 t4 t13 t19 H) (S115_10 call t0 t4 t13 U H)
noncomputable def S115_12 (call : CallFn) (t0 t4 t13 t16 : AV) (H : AHeap) : R :=
  guardA t16 true (pLss t4 (.int .i64 (.ofNat 10)) H fun t18 H =>
  S115_11 call t0 t4 t13 t16 t18 H) (S115_11 call t0 t4 t13 t16 U H)
noncomputable def S115_13 (call : CallFn) (t0 : AV) (H : AHeap) : R :=
  pO (aLen .str H t0) H fun t12 H =>
  guardA (.bool false) true (pLss (.int .i64 (.ofNat 0)) t12 H fun t15 H =>
  S115_12 call t0 t12 (.bool false) t15 H) (S115_12 call t0 t12 (.bool false) U H)
noncomputable def S115 : Ff := ⟨fun call l H => argA1 (fun t0 => S115_13 call t0 H) l⟩
/- internal/stringslite.TrimPrefix -/
noncomputable def S117_0 (call : CallFn) (t0 t1 : AV) (H : AHeap) : R :=
  pC call 193 [t0, t1] H fun t7 H =>
  onBool t7 (pO (aLen .str H t1) H fun t10 H =>
  pO (aSliceS t0 (.some t10) .none) H fun t11 H =>
  some (t11, H)) (some (t0, H))
noncomputable def S117 : Ff := ⟨fun call l H => argA2 (fun t0 t1 => S117_0 call t0 t1 H) l⟩
/- strings.HasPrefix -/
noncomputable def S118_0 (call : CallFn) (t0 t1 : AV) (H : AHeap) : R :=
  pC call 193 [t0, t1] H fun t7 H =>
  some (t7, H)
noncomputable def S118 : Ff := ⟨fun call l H => argA2 (fun t0 t1 => S118_0 call t0 t1 H) l⟩
/- gantline/lex.while -/
noncomputable def S119_1 (_ : CallFn) (q0 : AV → AV → AV → AHeap → R) (t0 t1 t5 t10 t15 : AV) (H : AHeap) : R :=
  pPick t10 t15 (.bool false) H fun t16 H =>
  onBool t16 (pAdd t5 (.int .i64 (.ofNat 1)) H fun t18 H =>
  q0 t0 t1 t18 H) (some (t5, H))
noncomputable def S119_0 (call : CallFn) (n : Nat) : AV → AV → AV → AHeap → R :=
  Nat.rec (motive := fun _ => AV → AV → AV → AHeap → R) (fun _ _ _ _ => none) (fun _ q0 t0 t1 t5 H => pO (aLen .str H t0) H fun t8 H =>
  pLss t5 t8 H fun t9 H =>
  guardA t9 true (pO (aIdxS t0 t5) H fun t14 H =>
  pV call t1 [t14] H fun t15 H =>
  S119_1 call q0 t0 t1 t5 t9 t15 H) (S119_1 call q0 t0 t1 t5 t9 U H)) n
noncomputable def S119 : Ff := ⟨fun call l H => argA2 (fun t0 t1 => S119_0 call 1000000 t0 t1 (.int .i64 (.ofNat 0)) H) l⟩
/- gantline/lex.letter -/
noncomputable def S121_0 (_ : CallFn) (t17 t19 : AV) (H : AHeap) : R :=
  pPick t17 (.bool true) t19 H fun t20 H =>
  some (t20, H)
noncomputable def S121_1 (call : CallFn) (t0 t9 t15 : AV) (H : AHeap) : R :=
  pPick t9 (.bool true) t15 H fun t16 H =>
  guardA t16 false (pEql t0 (.int .u8 (.ofNat 95)) H fun t19 H =>
  S121_0 call t16 t19 H) (S121_0 call t16 U H)
noncomputable def S121_2 (call : CallFn) (t0 t9 t12 t14 : AV) (H : AHeap) : R :=
  guardA t9 false (pPick t12 t14 (.bool false) H fun t15 H =>
  S121_1 call t0 t9 t15 H) (S121_1 call t0 t9 U H)
noncomputable def S121_3 (call : CallFn) (t0 t9 t12 : AV) (H : AHeap) : R :=
  guardA t12 true (pLeq t0 (.int .u8 (.ofNat 90)) H fun t14 H =>
  S121_2 call t0 t9 t12 t14 H) (S121_2 call t0 t9 t12 U H)
noncomputable def S121_4 (call : CallFn) (t0 t5 t7 : AV) (H : AHeap) : R :=
  pPick t5 t7 (.bool false) H fun t8 H =>
  guardA t8 false (pGeq t0 (.int .u8 (.ofNat 65)) H fun t11 H =>
  S121_3 call t0 t8 t11 H) (S121_3 call t0 t8 U H)
noncomputable def S121_5 (call : CallFn) (t0 : AV) (H : AHeap) : R :=
  pGeq t0 (.int .u8 (.ofNat 97)) H fun t4 H =>
  guardA t4 true (pLeq t0 (.int .u8 (.ofNat 122)) H fun t7 H =>
  S121_4 call t0 t4 t7 H) (S121_4 call t0 t4 U H)
noncomputable def S121 : Ff := ⟨fun call l H => argA1 (fun t0 => S121_5 call t0 H) l⟩
/- gantline/lex.inName -/
noncomputable def S122_0 (_ : CallFn) (t5 t7 : AV) (H : AHeap) : R :=
  pPick t5 (.bool true) t7 H fun t8 H =>
  some (t8, H)
noncomputable def S122_1 (call : CallFn) (t0 : AV) (H : AHeap) : R :=
  pC call 121 [t0] H fun t4 H =>
  guardA t4 false (pC call 124 [t0] H fun t7 H =>
  S122_0 call t4 t7 H) (S122_0 call t4 U H)
noncomputable def S122 : Ff := ⟨fun call l H => argA1 (fun t0 => S122_1 call t0 H) l⟩
/- gantline/lex.Kept -/
noncomputable def S123_0 (_ : CallFn) (t4 : AV) (H : AHeap) : R :=
  onBool t4 (some ((.bool true), H)) (some ((.bool false), H))
noncomputable def S123_1 (call : CallFn) (t0 : AV) (H : AHeap) : R :=
  pEql t0 (.str [115, 116, 114, 117, 99, 116]) H fun t5 H =>
  onBool t5 (S123_0 call t5 H) (pEql t0 (.str [118, 97, 114]) H fun t6 H =>
  onBool t6 (S123_0 call t6 H) (pEql t0 (.str [102, 117, 110, 99]) H fun t7 H =>
  onBool t7 (S123_0 call t7 H) (pEql t0 (.str [105, 110, 116]) H fun t8 H =>
  onBool t8 (S123_0 call t8 H) (pEql t0 (.str [98, 111, 111, 108]) H fun t9 H =>
  onBool t9 (S123_0 call t9 H) (pEql t0 (.str [99, 104, 97, 110]) H fun t10 H =>
  onBool t10 (S123_0 call t10 H) (pEql t0 (.str [105, 102]) H fun t11 H =>
  onBool t11 (S123_0 call t11 H) (pEql t0 (.str [101, 108, 115, 101]) H fun t12 H =>
  onBool t12 (S123_0 call t12 H) (pEql t0 (.str [119, 104, 105, 108, 101]) H fun t13 H =>
  onBool t13 (S123_0 call t13 H) (pEql t0 (.str [114, 101, 116, 117, 114, 110]) H fun t14 H =>
  onBool t14 (S123_0 call t14 H) (pEql t0 (.str [112, 114, 105, 110, 116]) H fun t15 H =>
  onBool t15 (S123_0 call t15 H) (pEql t0 (.str [103, 111]) H fun t16 H =>
  onBool t16 (S123_0 call t16 H) (pEql t0 (.str [115, 101, 110, 100]) H fun t17 H =>
  onBool t17 (S123_0 call t17 H) (pEql t0 (.str [99, 108, 111, 115, 101]) H fun t18 H =>
  onBool t18 (S123_0 call t18 H) (pEql t0 (.str [115, 101, 108, 101, 99, 116]) H fun t19 H =>
  onBool t19 (S123_0 call t19 H) (pEql t0 (.str [99, 97, 115, 101]) H fun t20 H =>
  onBool t20 (S123_0 call t20 H) (pEql t0 (.str [100, 101, 102, 97, 117, 108, 116]) H fun t21 H =>
  onBool t21 (S123_0 call t21 H) (pEql t0 (.str [114, 101, 99, 118]) H fun t22 H =>
  onBool t22 (S123_0 call t22 H) (pEql t0 (.str [116, 114, 117, 101]) H fun t23 H =>
  onBool t23 (S123_0 call t23 H) (pEql t0 (.str [102, 97, 108, 115, 101]) H fun t24 H =>
  onBool t24 (S123_0 call t24 H) (pEql t0 (.str [110, 105, 108]) H fun t25 H =>
  onBool t25 (S123_0 call t25 H) (pEql t0 (.str [110, 101, 119]) H fun t26 H =>
  onBool t26 (S123_0 call t26 H) (pEql t0 (.str [109, 97, 107, 101]) H fun t27 H =>
  onBool t27 (S123_0 call t27 H) (pEql t0 (.str [108, 101, 110]) H fun t28 H =>
  S123_0 call t28 H)))))))))))))))))))))))
noncomputable def S123 : Ff := ⟨fun call l H => argA1 (fun t0 => S123_1 call t0 H) l⟩
/- gantline/lex.digit -/
noncomputable def S124_0 (_ : CallFn) (t5 t7 : AV) (H : AHeap) : R :=
  pPick t5 t7 (.bool false) H fun t8 H =>
  some (t8, H)
noncomputable def S124_1 (call : CallFn) (t0 : AV) (H : AHeap) : R :=
  pGeq t0 (.int .u8 (.ofNat 48)) H fun t4 H =>
  guardA t4 true (pLeq t0 (.int .u8 (.ofNat 57)) H fun t7 H =>
  S124_0 call t4 t7 H) (S124_0 call t4 U H)
noncomputable def S124 : Ff := ⟨fun call l H => argA1 (fun t0 => S124_1 call t0 H) l⟩
/- gantline/lex.signs -/
noncomputable def S126_0 (_ : CallFn) (H : AHeap) : R :=
  pN (aBsl 1 30 [(.str [])] [(0, 1, (.str [61, 61])), (1, 1, (.str [33, 61])), (2, 1, (.str [60, 61])), (3, 1, (.str [62, 61])), (4, 1, (.str [60, 60])), (5, 1, (.str [62, 62])), (6, 1, (.str [38, 38])), (7, 1, (.str [124, 124])), (8, 1, (.str [40])), (9, 1, (.str [41])), (10, 1, (.str [123])), (11, 1, (.str [125])), (12, 1, (.str [91])), (13, 1, (.str [93])), (14, 1, (.str [44])), (15, 1, (.str [59])), (16, 1, (.str [46])), (17, 1, (.str [61])), (18, 1, (.str [60])), (19, 1, (.str [62])), (20, 1, (.str [43])), (21, 1, (.str [45])), (22, 1, (.str [42])), (23, 1, (.str [47])), (24, 1, (.str [37])), (25, 1, (.str [38])), (26, 1, (.str [124])), (27, 1, (.str [94])), (28, 1, (.str [33])), (29, 1, (.str [58]))]) H fun t1 H =>
  some (t1, H)
noncomputable def S126 : Ff := ⟨fun call l H => argA0 (S126_0 call H) l⟩
/- (*gantline/parse.parser).take -/
noncomputable def S127_0 (call : CallFn) (t0 t1 : AV) (H : AHeap) : R :=
  pN (aBsl 1 1 [(.str [])] [(0, 1, t1)]) H fun t7 H =>
  pC call 130 [t0, t7] H fun t8 H =>
  pO (aUn .not t8) H fun t9 H =>
  onBool t9 (some ((.bool false), H)) (pC call 195 [t0] H fun _ H =>
  some ((.bool true), H))
noncomputable def S127 : Ff := ⟨fun call l H => argA2 (fun t0 t1 => S127_0 call t0 t1 H) l⟩
/- (*gantline/parse.parser).name -/
noncomputable def S128_0 (call : CallFn) (t0 : AV) (H : AHeap) : R :=
  pNew [(.int .i64 (.ofNat 0)), (.str []), (.int .i64 (.ofNat 0))] H fun t2 H =>
  pC call 62 [t0] H fun t4 H =>
  pO (aFld 0 .none t4) H fun t5 H =>
  pNeq t5 (.int .i64 (.ofNat 1)) H fun t6 H =>
  onBool t6 (pC call 133 [t0, (.int .i64 (.ofNat 6))] H fun _ H =>
  pO (someAgg (aFill [(.int .i64 (.ofNat 0)), (.str []), (.int .i64 (.ofNat 0))] [])) H fun t9 H =>
  stK 3 H t2 t9 fun _ H =>
  ob (allM (fun o => o) [aLoad (.some 3) H t2]) fun vs => some (resV vs, H)) (pC call 195 [t0] H fun t11 H =>
  stK 3 H t2 t11 fun _ H =>
  ob (allM (fun o => o) [aLoad (.some 3) H t2]) fun vs => some (resV vs, H))
noncomputable def S128 : Ff := ⟨fun call l H => argA1 (fun t0 => S128_0 call t0 H) l⟩
/- (*gantline/parse.parser).want -/
noncomputable def S129_0 (call : CallFn) (t0 t1 : AV) (H : AHeap) : R :=
  pNew [(.int .i64 (.ofNat 0)), (.str []), (.int .i64 (.ofNat 0))] H fun t4 H =>
  pN (aBsl 1 1 [(.str [])] [(0, 1, t1)]) H fun t7 H =>
  pC call 130 [t0, t7] H fun t8 H =>
  pO (aUn .not t8) H fun t9 H =>
  onBool t9 (pC call 133 [t0, (.int .i64 (.ofNat 6))] H fun _ H =>
  pO (someAgg (aFill [(.int .i64 (.ofNat 0)), (.str []), (.int .i64 (.ofNat 0))] [])) H fun t12 H =>
  stK 3 H t4 t12 fun _ H =>
  ob (allM (fun o => o) [aLoad (.some 3) H t4]) fun vs => some (resV vs, H)) (pC call 195 [t0] H fun t14 H =>
  stK 3 H t4 t14 fun _ H =>
  ob (allM (fun o => o) [aLoad (.some 3) H t4]) fun vs => some (resV vs, H))
noncomputable def S129 : Ff := ⟨fun call l H => argA2 (fun t0 t1 => S129_0 call t0 t1 H) l⟩
/- (*gantline/parse.parser).is -/
noncomputable def S130_0 (_ : CallFn) (t21 t25 : AV) (H : AHeap) : R :=
  pPick t21 t25 (.bool false) H fun t26 H =>
  some (t26, H)
noncomputable def S130_1 (call : CallFn) (t1 t5 t16 t19 : AV) (H : AHeap) : R :=
  pPick t16 t19 (.bool false) H fun t20 H =>
  guardA t20 true (pFa 1 t5 H fun t23 H =>
  ldK .none H t23 fun t24 H =>
  pC call 196 [t1, t24] H fun t25 H =>
  S130_0 call t20 t25 H) (S130_0 call t20 U H)
noncomputable def S130_2 (call : CallFn) (t1 t5 t11 t14 : AV) (H : AHeap) : R :=
  pPick t11 t14 (.bool false) H fun t15 H =>
  guardA t15 true (pFa 0 t5 H fun t17 H =>
  ldK .none H t17 fun t18 H =>
  pNeq t18 (.int .i64 (.ofNat 0)) H fun t19 H =>
  S130_1 call t1 t5 t15 t19 H) (S130_1 call t1 t5 t15 U H)
noncomputable def S130_3 (call : CallFn) (t0 t1 : AV) (H : AHeap) : R :=
  pC call 62 [t0] H fun t7 H =>
  pNew [(.int .i64 (.ofNat 0)), (.str []), (.int .i64 (.ofNat 0))] H fun t5 H =>
  stK 3 H t5 t7 fun _ H =>
  pFa 0 t5 H fun t8 H =>
  ldK .none H t8 fun t9 H =>
  pNeq t9 (.int .i64 (.ofNat 1)) H fun t10 H =>
  guardA t10 true (pFa 0 t5 H fun t12 H =>
  ldK .none H t12 fun t13 H =>
  pNeq t13 (.int .i64 (.ofNat 3)) H fun t14 H =>
  S130_2 call t1 t5 t10 t14 H) (S130_2 call t1 t5 t10 U H)
noncomputable def S130 : Ff := ⟨fun call l H => argA2 (fun t0 t1 => S130_3 call t0 t1 H) l⟩
/- (*gantline/parse.parser).body -/
noncomputable def S132_0 (call : CallFn) (t0 : AV) (H : AHeap) : R :=
  pBox t0 H fun t1 H =>
  ldK .none H t1 fun t5 H =>
  pC call 129 [t5, (.str [40])] H fun _ H =>
  ldK .none H t1 fun t7 H =>
  pC call 61 [t7, (.str [112, 97, 114, 97, 109, 115])] H fun t8 H =>
  pNew [(.str []), (.str []), (.int .i64 (.ofNat 0)), .nilsl] H fun t3 H =>
  stK 4 H t3 t8 fun _ H =>
  ldK .none H t1 fun t9 H =>
  pC call 198 [t9, (.fn 199 [] [t1])] H fun t11 H =>
  pFa 3 t3 H fun t12 H =>
  stK 1 H t12 t11 fun _ H =>
  ldK .none H t1 fun t13 H =>
  pC call 200 [t13] H fun t14 H =>
  pNew [(.str []), (.str []), (.int .i64 (.ofNat 0)), .nilsl] H fun t4 H =>
  stK 4 H t4 t14 fun _ H =>
  ldK (.some 4) H t3 fun t15 H =>
  ldK (.some 4) H t4 fun t16 H =>
  ldK .none H t1 fun t17 H =>
  pC call 201 [t17] H fun t18 H =>
  andR (andB (ckV (aLoad (.some 4) H t3) t15) (andB (ckV (aLoad (.some 4) H t4) t16) true)) (
  pN (aBsl 4 3 [(.str []), (.str []), (.int .i64 (.ofNat 0)), .nilsl] [(0, 4, t15), (4, 4, t16), (8, 4, t18)]) H fun t19 H =>
  some (t19, H))
noncomputable def S132 : Ff := ⟨fun call l H => argA1 (fun t0 => S132_0 call t0 H) l⟩
/- (*gantline/parse.parser).fail -/
noncomputable def S133_0 (call : CallFn) (t0 t1 : AV) (H : AHeap) : R :=
  pO (aNil t0) H fun t5 H =>
  pFa 3 t5 H fun t6 H =>
  ldK .none H t6 fun t7 H =>
  pEql t7 (.int .i64 (.ofNat 0)) H fun t8 H =>
  onBool t8 (pC call 62 [t0] H fun t13 H =>
  pO (aFld 2 .none t13) H fun t14 H =>
  pO (aNil t0) H fun t15 H =>
  pFa 3 t15 H fun t16 H =>
  stK 1 H t16 t1 fun _ H =>
  pO (aNil t0) H fun t17 H =>
  pFa 4 t17 H fun t18 H =>
  stK 1 H t18 t14 fun _ H =>
  pO (aNil t0) H fun t21 H =>
  pFa 0 t21 H fun t22 H =>
  ldK .none H t22 fun t23 H =>
  pO (aLen .sl H t23) H fun t24 H =>
  pSub t24 (.int .i64 (.ofNat 1)) H fun t25 H =>
  pO (aNil t0) H fun t26 H =>
  pFa 1 t26 H fun t27 H =>
  stK 1 H t27 t25 fun _ H =>
  some (.tup [], H)) (some (.tup [], H))
noncomputable def S133 : Ff := ⟨fun call l H => argA2 (fun t0 t1 => S133_0 call t0 t1 H) l⟩
/- gantline/tree.find -/
noncomputable def S134_0 (_ : CallFn) (t2 t4 t71 : AV) (H : AHeap) : R :=
  onBool t71 (pN (aBsl 1 1 [(.str [])] [(0, 1, (.str [97, 110, 32, 101, 120, 112, 114, 101, 115, 115, 105, 111, 110]))]) H fun t79 H =>
  pO (someAgg (aFill [.nilsl, (.str [])] [(0, 1, t79)])) H fun t80 H =>
  stK 2 H t2 t80 fun _ H =>
  ob (allM (fun o => o) [aLoad (.some 2) H t2, some (.bool true)]) fun vs => some (resV vs, H)) (pEql t4 (.str [103, 111]) H fun t82 H =>
  onBool t82 (pN (aBsl 1 1 [(.str [])] [(0, 1, (.str [99, 97, 108, 108]))]) H fun t83 H =>
  pO (someAgg (aFill [.nilsl, (.str [])] [(0, 1, t83)])) H fun t84 H =>
  stK 2 H t2 t84 fun _ H =>
  ob (allM (fun o => o) [aLoad (.some 2) H t2, some (.bool true)]) fun vs => some (resV vs, H)) (pEql t4 (.str [115, 101, 108, 101, 99, 116]) H fun t86 H =>
  onBool t86 (pO (someAgg (aFill [.nilsl, (.str [])] [(1, 1, (.str [97, 32, 99, 97, 115, 101]))])) H fun t87 H =>
  stK 2 H t2 t87 fun _ H =>
  ob (allM (fun o => o) [aLoad (.some 2) H t2, some (.bool true)]) fun vs => some (resV vs, H)) (pEql t4 (.str [111, 110, 115, 101, 110, 100]) H fun t89 H =>
  onBool t89 (pN (aBsl 1 3 [(.str [])] [(0, 1, (.str [97, 110, 32, 101, 120, 112, 114, 101, 115, 115, 105, 111, 110])), (1, 1, (.str [97, 110, 32, 101, 120, 112, 114, 101, 115, 115, 105, 111, 110])), (2, 1, (.str [98, 108, 111, 99, 107]))]) H fun t90 H =>
  pO (someAgg (aFill [.nilsl, (.str [])] [(0, 1, t90)])) H fun t91 H =>
  stK 2 H t2 t91 fun _ H =>
  ob (allM (fun o => o) [aLoad (.some 2) H t2, some (.bool true)]) fun vs => some (resV vs, H)) (pEql t4 (.str [100, 101, 102, 97, 117, 108, 116]) H fun t93 H =>
  onBool t93 (pN (aBsl 1 1 [(.str [])] [(0, 1, (.str [98, 108, 111, 99, 107]))]) H fun t94 H =>
  pO (someAgg (aFill [.nilsl, (.str [])] [(0, 1, t94)])) H fun t95 H =>
  stK 2 H t2 t95 fun _ H =>
  ob (allM (fun o => o) [aLoad (.some 2) H t2, some (.bool true)]) fun vs => some (resV vs, H)) (pEql t4 (.str [99, 97, 108, 108]) H fun t97 H =>
  onBool t97 (pN (aBsl 1 1 [(.str [])] [(0, 1, (.str [97, 110, 32, 101, 120, 112, 114, 101, 115, 115, 105, 111, 110]))]) H fun t98 H =>
  pO (someAgg (aFill [.nilsl, (.str [])] [(0, 1, t98), (1, 1, (.str [97, 110, 32, 101, 120, 112, 114, 101, 115, 115, 105, 111, 110]))])) H fun t99 H =>
  stK 2 H t2 t99 fun _ H =>
  ob (allM (fun o => o) [aLoad (.some 2) H t2, some (.bool true)]) fun vs => some (resV vs, H)) (pO (someAgg (aFill [.nilsl, (.str [])] [])) H fun t100 H =>
  stK 2 H t2 t100 fun _ H =>
  ob (allM (fun o => o) [aLoad (.some 2) H t2, some (.bool false)]) fun vs => some (resV vs, H)))))))
noncomputable def S134_1 (call : CallFn) (t2 t4 t62 : AV) (H : AHeap) : R :=
  onBool t62 (pN (aBsl 1 2 [(.str [])] [(0, 1, (.str [97, 110, 32, 101, 120, 112, 114, 101, 115, 115, 105, 111, 110])), (1, 1, (.str [98, 108, 111, 99, 107]))]) H fun t65 H =>
  pO (someAgg (aFill [.nilsl, (.str [])] [(0, 1, t65)])) H fun t66 H =>
  stK 2 H t2 t66 fun _ H =>
  ob (allM (fun o => o) [aLoad (.some 2) H t2, some (.bool true)]) fun vs => some (resV vs, H)) (pEql t4 (.str [114, 101, 116, 117, 114, 110]) H fun t68 H =>
  onBool t68 (pN (aBsl 1 1 [(.str [])] [(0, 1, (.str [63, 97, 110, 32, 101, 120, 112, 114, 101, 115, 115, 105, 111, 110]))]) H fun t69 H =>
  pO (someAgg (aFill [.nilsl, (.str [])] [(0, 1, t69)])) H fun t70 H =>
  stK 2 H t2 t70 fun _ H =>
  ob (allM (fun o => o) [aLoad (.some 2) H t2, some (.bool true)]) fun vs => some (resV vs, H)) (pEql t4 (.str [112, 114, 105, 110, 116]) H fun t72 H =>
  onBool t72 (S134_0 call t2 t4 t72 H) (pEql t4 (.str [99, 108, 111, 115, 101]) H fun t73 H =>
  onBool t73 (S134_0 call t2 t4 t73 H) (pEql t4 (.str [100, 111]) H fun t74 H =>
  onBool t74 (S134_0 call t2 t4 t74 H) (pEql t4 (.str [117, 110, 97, 114, 121]) H fun t75 H =>
  onBool t75 (S134_0 call t2 t4 t75 H) (pEql t4 (.str [100, 111, 116]) H fun t76 H =>
  onBool t76 (S134_0 call t2 t4 t76 H) (pEql t4 (.str [108, 101, 110]) H fun t77 H =>
  onBool t77 (S134_0 call t2 t4 t77 H) (pEql t4 (.str [114, 101, 99, 118]) H fun t78 H =>
  S134_0 call t2 t4 t78 H))))))))
noncomputable def S134_2 (call : CallFn) (t2 t4 t51 : AV) (H : AHeap) : R :=
  onBool t51 (pN (aBsl 1 2 [(.str [])] [(0, 1, (.str [97, 110, 32, 101, 120, 112, 114, 101, 115, 115, 105, 111, 110])), (1, 1, (.str [97, 110, 32, 101, 120, 112, 114, 101, 115, 115, 105, 111, 110]))]) H fun t56 H =>
  pO (someAgg (aFill [.nilsl, (.str [])] [(0, 1, t56)])) H fun t57 H =>
  stK 2 H t2 t57 fun _ H =>
  ob (allM (fun o => o) [aLoad (.some 2) H t2, some (.bool true)]) fun vs => some (resV vs, H)) (pEql t4 (.str [105, 102]) H fun t59 H =>
  onBool t59 (pN (aBsl 1 3 [(.str [])] [(0, 1, (.str [97, 110, 32, 101, 120, 112, 114, 101, 115, 115, 105, 111, 110])), (1, 1, (.str [98, 108, 111, 99, 107])), (2, 1, (.str [63, 98, 108, 111, 99, 107]))]) H fun t60 H =>
  pO (someAgg (aFill [.nilsl, (.str [])] [(0, 1, t60)])) H fun t61 H =>
  stK 2 H t2 t61 fun _ H =>
  ob (allM (fun o => o) [aLoad (.some 2) H t2, some (.bool true)]) fun vs => some (resV vs, H)) (pEql t4 (.str [119, 104, 105, 108, 101]) H fun t63 H =>
  onBool t63 (S134_1 call t2 t4 t63 H) (pEql t4 (.str [111, 110, 114, 101, 99, 118]) H fun t64 H =>
  S134_1 call t2 t4 t64 H)))
noncomputable def S134_3 (call : CallFn) (t2 t4 t46 : AV) (H : AHeap) : R :=
  onBool t46 (pN (aBsl 1 2 [(.str [])] [(0, 1, (.str [97, 32, 116, 121, 112, 101])), (1, 1, (.str [97, 110, 32, 101, 120, 112, 114, 101, 115, 115, 105, 111, 110]))]) H fun t49 H =>
  pO (someAgg (aFill [.nilsl, (.str [])] [(0, 1, t49)])) H fun t50 H =>
  stK 2 H t2 t50 fun _ H =>
  ob (allM (fun o => o) [aLoad (.some 2) H t2, some (.bool true)]) fun vs => some (resV vs, H)) (pEql t4 (.str [115, 101, 116]) H fun t52 H =>
  onBool t52 (S134_2 call t2 t4 t52 H) (pEql t4 (.str [115, 101, 110, 100]) H fun t53 H =>
  onBool t53 (S134_2 call t2 t4 t53 H) (pEql t4 (.str [98, 105, 110, 97, 114, 121]) H fun t54 H =>
  onBool t54 (S134_2 call t2 t4 t54 H) (pEql t4 (.str [105, 110, 100, 101, 120]) H fun t55 H =>
  S134_2 call t2 t4 t55 H))))
noncomputable def S134_4 (call : CallFn) (t2 t4 t28 : AV) (H : AHeap) : R :=
  onBool t28 (pO (someAgg (aFill [.nilsl, (.str [])] [])) H fun t38 H =>
  stK 2 H t2 t38 fun _ H =>
  ob (allM (fun o => o) [aLoad (.some 2) H t2, some (.bool true)]) fun vs => some (resV vs, H)) (pEql t4 (.str [102, 110]) H fun t40 H =>
  onBool t40 (pN (aBsl 1 1 [(.str [])] [(0, 1, (.str [63, 97, 32, 116, 121, 112, 101]))]) H fun t41 H =>
  pO (someAgg (aFill [.nilsl, (.str [])] [(0, 1, t41), (1, 1, (.str [97, 32, 116, 121, 112, 101]))])) H fun t42 H =>
  stK 2 H t2 t42 fun _ H =>
  ob (allM (fun o => o) [aLoad (.some 2) H t2, some (.bool true)]) fun vs => some (resV vs, H)) (pEql t4 (.str [98, 108, 111, 99, 107]) H fun t44 H =>
  onBool t44 (pO (someAgg (aFill [.nilsl, (.str [])] [(1, 1, (.str [97, 32, 115, 116, 97, 116, 101, 109, 101, 110, 116]))])) H fun t45 H =>
  stK 2 H t2 t45 fun _ H =>
  ob (allM (fun o => o) [aLoad (.some 2) H t2, some (.bool true)]) fun vs => some (resV vs, H)) (pEql t4 (.str [108, 101, 116]) H fun t47 H =>
  onBool t47 (S134_3 call t2 t4 t47 H) (pEql t4 (.str [109, 97, 107, 101]) H fun t48 H =>
  S134_3 call t2 t4 t48 H))))
noncomputable def S134_5 (call : CallFn) (t2 t4 t20 : AV) (H : AHeap) : R :=
  onBool t20 (pN (aBsl 1 3 [(.str [])] [(0, 1, (.str [112, 97, 114, 97, 109, 115])), (1, 1, (.str [63, 97, 32, 116, 121, 112, 101])), (2, 1, (.str [98, 108, 111, 99, 107]))]) H fun t23 H =>
  pO (someAgg (aFill [.nilsl, (.str [])] [(0, 1, t23)])) H fun t24 H =>
  stK 2 H t2 t24 fun _ H =>
  ob (allM (fun o => o) [aLoad (.some 2) H t2, some (.bool true)]) fun vs => some (resV vs, H)) (pEql t4 (.str [112, 97, 114, 97, 109, 115]) H fun t26 H =>
  onBool t26 (pO (someAgg (aFill [.nilsl, (.str [])] [(1, 1, (.str [112, 97, 114, 97, 109]))])) H fun t27 H =>
  stK 2 H t2 t27 fun _ H =>
  ob (allM (fun o => o) [aLoad (.some 2) H t2, some (.bool true)]) fun vs => some (resV vs, H)) (pEql t4 (.str [110, 111, 110, 101]) H fun t29 H =>
  onBool t29 (S134_4 call t2 t4 t29 H) (pEql t4 (.str [105, 110, 116]) H fun t30 H =>
  onBool t30 (S134_4 call t2 t4 t30 H) (pEql t4 (.str [98, 111, 111, 108]) H fun t31 H =>
  onBool t31 (S134_4 call t2 t4 t31 H) (pEql t4 (.str [110, 97, 109, 101, 100]) H fun t32 H =>
  onBool t32 (S134_4 call t2 t4 t32 H) (pEql t4 (.str [110, 117, 109, 98, 101, 114]) H fun t33 H =>
  onBool t33 (S134_4 call t2 t4 t33 H) (pEql t4 (.str [116, 114, 117, 101]) H fun t34 H =>
  onBool t34 (S134_4 call t2 t4 t34 H) (pEql t4 (.str [102, 97, 108, 115, 101]) H fun t35 H =>
  onBool t35 (S134_4 call t2 t4 t35 H) (pEql t4 (.str [110, 97, 109, 101]) H fun t36 H =>
  onBool t36 (S134_4 call t2 t4 t36 H) (pEql t4 (.str [110, 101, 119]) H fun t37 H =>
  S134_4 call t2 t4 t37 H))))))))))
noncomputable def S134_6 (call : CallFn) (t2 t4 t11 : AV) (H : AHeap) : R :=
  onBool t11 (pN (aBsl 1 1 [(.str [])] [(0, 1, (.str [97, 32, 116, 121, 112, 101]))]) H fun t18 H =>
  pO (someAgg (aFill [.nilsl, (.str [])] [(0, 1, t18)])) H fun t19 H =>
  stK 2 H t2 t19 fun _ H =>
  ob (allM (fun o => o) [aLoad (.some 2) H t2, some (.bool true)]) fun vs => some (resV vs, H)) (pEql t4 (.str [102, 117, 110, 99]) H fun t21 H =>
  onBool t21 (S134_5 call t2 t4 t21 H) (pEql t4 (.str [108, 97, 109, 98, 100, 97]) H fun t22 H =>
  S134_5 call t2 t4 t22 H))
noncomputable def S134_7 (call : CallFn) (t0 : AV) (H : AHeap) : R :=
  pNew [.nilsl, (.str [])] H fun t2 H =>
  pEql t0 (.str [112, 114, 111, 103, 114, 97, 109]) H fun t6 H =>
  onBool t6 (pO (someAgg (aFill [.nilsl, (.str [])] [(1, 1, (.str [97, 32, 100, 101, 99, 108, 97, 114, 97, 116, 105, 111, 110]))])) H fun t7 H =>
  stK 2 H t2 t7 fun _ H =>
  ob (allM (fun o => o) [aLoad (.some 2) H t2, some (.bool true)]) fun vs => some (resV vs, H)) (pEql t0 (.str [115, 116, 114, 117, 99, 116]) H fun t9 H =>
  onBool t9 (pO (someAgg (aFill [.nilsl, (.str [])] [(1, 1, (.str [102, 105, 101, 108, 100]))])) H fun t10 H =>
  stK 2 H t2 t10 fun _ H =>
  ob (allM (fun o => o) [aLoad (.some 2) H t2, some (.bool true)]) fun vs => some (resV vs, H)) (pEql t0 (.str [102, 105, 101, 108, 100]) H fun t12 H =>
  onBool t12 (S134_6 call t2 t0 t12 H) (pEql t0 (.str [103, 108, 111, 98, 97, 108]) H fun t13 H =>
  onBool t13 (S134_6 call t2 t0 t13 H) (pEql t0 (.str [112, 97, 114, 97, 109]) H fun t14 H =>
  onBool t14 (S134_6 call t2 t0 t14 H) (pEql t0 (.str [108, 105, 115, 116]) H fun t15 H =>
  onBool t15 (S134_6 call t2 t0 t15 H) (pEql t0 (.str [99, 104, 97, 110]) H fun t16 H =>
  onBool t16 (S134_6 call t2 t0 t16 H) (pEql t0 (.str [110, 105, 108]) H fun t17 H =>
  S134_6 call t2 t0 t17 H)))))))
noncomputable def S134 : Ff := ⟨fun call l H => argA1 (fun t0 => S134_7 call t0 H) l⟩
/- gantline/tree.of -/
noncomputable def S135_0 (_ : CallFn) (t16 t19 : AV) (H : AHeap) : R :=
  pPick t16 (.bool true) t19 H fun t20 H =>
  some (t20, H)
noncomputable def S135_1 (call : CallFn) (t0 t1 : AV) (H : AHeap) : R :=
  pBox t0 H fun t2 H =>
  pC call 202 [t1, (.str [63])] H fun t9 H =>
  pExt t9 0 H fun t10 H =>
  pExt t9 1 H fun t11 H =>
  onBool t11 (pFa 0 t2 H fun t13 H =>
  ldK .none H t13 fun t14 H =>
  pEql t14 (.str [110, 111, 110, 101]) H fun t15 H =>
  guardA t15 false (ldK (.some 4) H t2 fun t17 H =>
  pC call 135 [t17, t10] H fun t19 H =>
  S135_0 call t15 t19 H) (S135_0 call t15 U H)) (pEql t1 (.str [97, 32, 100, 101, 99, 108, 97, 114, 97, 116, 105, 111, 110]) H fun t23 H =>
  onBool t23 (pN (aBsl 1 3 [(.str [])] [(0, 1, (.str [115, 116, 114, 117, 99, 116])), (1, 1, (.str [103, 108, 111, 98, 97, 108])), (2, 1, (.str [102, 117, 110, 99]))]) H fun t24 H =>
  pFa 0 t2 H fun t25 H =>
  ldK .none H t25 fun t26 H =>
  pC call 196 [t24, t26] H fun t27 H =>
  some (t27, H)) (pEql t1 (.str [97, 32, 116, 121, 112, 101]) H fun t29 H =>
  onBool t29 (pN (aBsl 1 6 [(.str [])] [(0, 1, (.str [105, 110, 116])), (1, 1, (.str [98, 111, 111, 108])), (2, 1, (.str [110, 97, 109, 101, 100])), (3, 1, (.str [108, 105, 115, 116])), (4, 1, (.str [99, 104, 97, 110])), (5, 1, (.str [102, 110]))]) H fun t30 H =>
  pFa 0 t2 H fun t31 H =>
  ldK .none H t31 fun t32 H =>
  pC call 196 [t30, t32] H fun t33 H =>
  some (t33, H)) (pEql t1 (.str [97, 32, 115, 116, 97, 116, 101, 109, 101, 110, 116]) H fun t35 H =>
  onBool t35 (pN (aBsl 1 12 [(.str [])] [(0, 1, (.str [98, 108, 111, 99, 107])), (1, 1, (.str [108, 101, 116])), (2, 1, (.str [115, 101, 116])), (3, 1, (.str [105, 102])), (4, 1, (.str [119, 104, 105, 108, 101])), (5, 1, (.str [114, 101, 116, 117, 114, 110])), (6, 1, (.str [112, 114, 105, 110, 116])), (7, 1, (.str [99, 108, 111, 115, 101])), (8, 1, (.str [103, 111])), (9, 1, (.str [115, 101, 110, 100])), (10, 1, (.str [115, 101, 108, 101, 99, 116])), (11, 1, (.str [100, 111]))]) H fun t36 H =>
  pFa 0 t2 H fun t37 H =>
  ldK .none H t37 fun t38 H =>
  pC call 196 [t36, t38] H fun t39 H =>
  some (t39, H)) (pEql t1 (.str [97, 110, 32, 101, 120, 112, 114, 101, 115, 115, 105, 111, 110]) H fun t41 H =>
  onBool t41 (pN (aBsl 1 15 [(.str [])] [(0, 1, (.str [110, 117, 109, 98, 101, 114])), (1, 1, (.str [116, 114, 117, 101])), (2, 1, (.str [102, 97, 108, 115, 101])), (3, 1, (.str [110, 105, 108])), (4, 1, (.str [110, 97, 109, 101])), (5, 1, (.str [98, 105, 110, 97, 114, 121])), (6, 1, (.str [117, 110, 97, 114, 121])), (7, 1, (.str [99, 97, 108, 108])), (8, 1, (.str [105, 110, 100, 101, 120])), (9, 1, (.str [100, 111, 116])), (10, 1, (.str [110, 101, 119])), (11, 1, (.str [109, 97, 107, 101])), (12, 1, (.str [108, 101, 110])), (13, 1, (.str [114, 101, 99, 118])), (14, 1, (.str [108, 97, 109, 98, 100, 97]))]) H fun t42 H =>
  pFa 0 t2 H fun t43 H =>
  ldK .none H t43 fun t44 H =>
  pC call 196 [t42, t44] H fun t45 H =>
  some (t45, H)) (pEql t1 (.str [97, 32, 99, 97, 115, 101]) H fun t47 H =>
  onBool t47 (pN (aBsl 1 3 [(.str [])] [(0, 1, (.str [111, 110, 114, 101, 99, 118])), (1, 1, (.str [111, 110, 115, 101, 110, 100])), (2, 1, (.str [100, 101, 102, 97, 117, 108, 116]))]) H fun t48 H =>
  pFa 0 t2 H fun t49 H =>
  ldK .none H t49 fun t50 H =>
  pC call 196 [t48, t50] H fun t51 H =>
  some (t51, H)) (pFa 0 t2 H fun t52 H =>
  ldK .none H t52 fun t53 H =>
  pEql t53 t1 H fun t55 H =>
  some (t55, H)))))))
noncomputable def S135 : Ff := ⟨fun call l H => argA2 (fun t0 t1 => S135_1 call t0 t1 H) l⟩
/- gantline/verify.module -/
noncomputable def S140_0 (_ : CallFn) (t79 t82 : AV) (H : AHeap) : R :=
  pPick t79 (.bool true) t82 H fun t83 H =>
  onBool t83 (some ((.int .i64 (.ofNat 2)), H)) (some ((.int .i64 (.ofNat 0)), H))
noncomputable def S140_1 (call : CallFn) (t5 t74 t77 : AV) (H : AHeap) : R :=
  pPick t74 (.bool true) t77 H fun t78 H =>
  guardA t78 false (pFa 3 t5 H fun t80 H =>
  ldK .none H t80 fun t81 H =>
  pNeq t81 (.int .i64 (.ofNat 0)) H fun t82 H =>
  S140_0 call t78 t82 H) (S140_0 call t78 U H)
noncomputable def S140_2 (call : CallFn) (t1 t57 t63 : AV) (H : AHeap) : R :=
  pPick t57 (.bool true) t63 H fun t64 H =>
  onBool t64 (some ((.int .i64 (.ofNat 2)), H)) (pFa 4 t1 H fun t65 H =>
  ldK .none H t65 fun t66 H =>
  pFa 5 t1 H fun t67 H =>
  ldK .none H t67 fun t68 H =>
  pIa 7 t66 t68 H fun t69 H =>
  ldK (.some 7) H t69 fun t70 H =>
  pNew [(.int .i64 (.ofNat 0)), (.int .i64 (.ofNat 0)), (.int .i64 (.ofNat 0)), (.int .i64 (.ofNat 0)), .nilsl, .nilsl, .nilsl] H fun t5 H =>
  stK 7 H t5 t70 fun _ H =>
  pFa 0 t5 H fun t71 H =>
  ldK .none H t71 fun t72 H =>
  pNeq t72 (.int .i64 (.ofNat 0)) H fun t73 H =>
  guardA t73 false (pFa 1 t5 H fun t75 H =>
  ldK .none H t75 fun t76 H =>
  pNeq t76 (.int .i64 (.ofNat 0)) H fun t77 H =>
  S140_1 call t5 t73 t77 H) (S140_1 call t5 t73 U H))
noncomputable def S140_3 (call : CallFn) (t1 t47 t51 : AV) (H : AHeap) : R :=
  pPick t47 (.bool true) t51 H fun t52 H =>
  onBool t52 (some ((.int .i64 (.ofNat 1)), H)) (pFa 5 t1 H fun t54 H =>
  ldK .none H t54 fun t55 H =>
  pLss t55 (.int .i64 (.ofNat 0)) H fun t56 H =>
  guardA t56 false (pFa 5 t1 H fun t58 H =>
  ldK .none H t58 fun t59 H =>
  pFa 4 t1 H fun t60 H =>
  ldK .none H t60 fun t61 H =>
  pO (aLen .sl H t61) H fun t62 H =>
  pGeq t59 t62 H fun t63 H =>
  S140_2 call t1 t56 t63 H) (S140_2 call t1 t56 U H))
noncomputable def S140_4 (call : CallFn) (t1 t41 t45 : AV) (H : AHeap) : R :=
  pPick t41 (.bool true) t45 H fun t46 H =>
  guardA t46 false (pFa 4 t1 H fun t48 H =>
  ldK .none H t48 fun t49 H =>
  pO (aLen .sl H t49) H fun t50 H =>
  pLss t50 (.int .i64 (.ofNat 1)) H fun t51 H =>
  S140_3 call t1 t46 t51 H) (S140_3 call t1 t46 U H)
noncomputable def S140_5 (call : CallFn) (t1 t35 t39 : AV) (H : AHeap) : R :=
  pPick t35 (.bool true) t39 H fun t40 H =>
  guardA t40 false (pFa 4 t1 H fun t42 H =>
  ldK .none H t42 fun t43 H =>
  pO (aLen .sl H t43) H fun t44 H =>
  pGtr t44 (.int .i64 (.ofNat 128)) H fun t45 H =>
  S140_4 call t1 t40 t45 H) (S140_4 call t1 t40 U H)
noncomputable def S140_6 (call : CallFn) (t1 t29 t33 : AV) (H : AHeap) : R :=
  pPick t29 (.bool true) t33 H fun t34 H =>
  guardA t34 false (pFa 3 t1 H fun t36 H =>
  ldK .none H t36 fun t37 H =>
  pO (aLen .sl H t37) H fun t38 H =>
  pGtr t38 (.int .i64 (.ofNat 1024)) H fun t39 H =>
  S140_5 call t1 t34 t39 H) (S140_5 call t1 t34 U H)
noncomputable def S140_7 (call : CallFn) (t1 t4 t23 t27 : AV) (H : AHeap) : R :=
  pPick t23 (.bool true) t27 H fun t28 H =>
  guardA t28 false (pFa 2 t1 H fun t30 H =>
  ldK .none H t30 fun t31 H =>
  pC call 230 [t31, t4] H fun t33 H =>
  S140_6 call t1 t28 t33 H) (S140_6 call t1 t28 U H)
noncomputable def S140_8 (call : CallFn) (t1 t4 t17 t21 : AV) (H : AHeap) : R :=
  pPick t17 (.bool true) t21 H fun t22 H =>
  guardA t22 false (pFa 2 t1 H fun t24 H =>
  ldK .none H t24 fun t25 H =>
  pO (aLen .sl H t25) H fun t26 H =>
  pGtr t26 (.int .i64 (.ofNat 4096)) H fun t27 H =>
  S140_7 call t1 t4 t22 t27 H) (S140_7 call t1 t4 t22 U H)
noncomputable def S140_9 (call : CallFn) (t1 t4 t11 t15 : AV) (H : AHeap) : R :=
  pPick t11 (.bool true) t15 H fun t16 H =>
  guardA t16 false (pFa 1 t1 H fun t18 H =>
  ldK .none H t18 fun t19 H =>
  pO (aLen .sl H t19) H fun t20 H =>
  pGtr t20 (.int .i64 (.ofNat 256)) H fun t21 H =>
  S140_8 call t1 t4 t16 t21 H) (S140_8 call t1 t4 t16 U H)
noncomputable def S140_10 (call : CallFn) (t0 : AV) (H : AHeap) : R :=
  pBox t0 H fun t1 H =>
  pFa 0 t1 H fun t7 H =>
  ldK .none H t7 fun t8 H =>
  pC call 229 [t8, (.fn 225 [] [])] H fun t10 H =>
  guardA t10 false (pFa 0 t1 H fun t12 H =>
  ldK .none H t12 fun t13 H =>
  pO (aLen .sl H t13) H fun t14 H =>
  pGtr t14 (.int .i64 (.ofNat 1024)) H fun t15 H =>
  S140_9 call t1 (.fn 227 [] []) t10 t15 H) (S140_9 call t1 (.fn 227 [] []) t10 U H)
noncomputable def S140 : Ff := ⟨fun call l H => argA1 (fun t0 => S140_10 call t0 H) l⟩
/- gantline/verify.whole -/
noncomputable def S141_0 (_ : CallFn) (t73 t78 : AV) (H : AHeap) : R :=
  pPick t73 t78 (.bool false) H fun t79 H =>
  some (t79, H)
noncomputable def S141_1 (call : CallFn) (t1 t3 t69 t71 : AV) (H : AHeap) : R :=
  pPick t69 t71 (.bool false) H fun t72 H =>
  guardA t72 true (pFa 6 t1 H fun t74 H =>
  ldK .none H t74 fun t75 H =>
  pO (aLen .sl H t75) H fun t76 H =>
  pEql t76 t3 H fun t78 H =>
  S141_0 call t72 t78 H) (S141_0 call t72 U H)
noncomputable def S141_2 (call : CallFn) (t1 t3 t65 t67 : AV) (H : AHeap) : R :=
  pPick t65 t67 (.bool false) H fun t68 H =>
  guardA t68 true (pLeq t3 (.int .i64 (.ofNat 4096)) H fun t71 H =>
  S141_1 call t1 t3 t68 t71 H) (S141_1 call t1 t3 t68 U H)
noncomputable def S141_3 (call : CallFn) (t1 t3 t60 t63 : AV) (H : AHeap) : R :=
  pPick t60 t63 (.bool false) H fun t64 H =>
  guardA t64 true (pGeq t3 (.int .i64 (.ofNat 1)) H fun t67 H =>
  S141_2 call t1 t3 t64 t67 H) (S141_2 call t1 t3 t64 U H)
noncomputable def S141_4 (call : CallFn) (t1 t3 t55 t58 : AV) (H : AHeap) : R :=
  pPick t55 t58 (.bool false) H fun t59 H =>
  guardA t59 true (pFa 3 t1 H fun t61 H =>
  ldK .none H t61 fun t62 H =>
  pLeq t62 (.int .i64 (.ofNat 2)) H fun t63 H =>
  S141_3 call t1 t3 t59 t63 H) (S141_3 call t1 t3 t59 U H)
noncomputable def S141_5 (call : CallFn) (t1 t3 t47 t53 : AV) (H : AHeap) : R :=
  pPick t47 t53 (.bool false) H fun t54 H =>
  guardA t54 true (pFa 3 t1 H fun t56 H =>
  ldK .none H t56 fun t57 H =>
  pGeq t57 (.int .i64 (.ofNat 0)) H fun t58 H =>
  S141_4 call t1 t3 t54 t58 H) (S141_4 call t1 t3 t54 U H)
noncomputable def S141_6 (call : CallFn) (t1 t3 t37 t45 : AV) (H : AHeap) : R :=
  pPick t37 t45 (.bool false) H fun t46 H =>
  guardA t46 true (pFa 4 t1 H fun t48 H =>
  ldK .none H t48 fun t49 H =>
  pO (aLen .sl H t49) H fun t50 H =>
  pFa 2 t1 H fun t51 H =>
  ldK .none H t51 fun t52 H =>
  pEql t50 t52 H fun t53 H =>
  S141_5 call t1 t3 t46 t53 H) (S141_5 call t1 t3 t46 U H)
noncomputable def S141_7 (call : CallFn) (t1 t3 t30 t35 : AV) (H : AHeap) : R :=
  pPick t30 t35 (.bool false) H fun t36 H =>
  guardA t36 true (pFa 1 t1 H fun t38 H =>
  ldK .none H t38 fun t39 H =>
  pFa 2 t1 H fun t40 H =>
  ldK .none H t40 fun t41 H =>
  pFa 0 t1 H fun t42 H =>
  ldK .none H t42 fun t43 H =>
  pSub t41 t43 H fun t44 H =>
  pLeq t39 t44 H fun t45 H =>
  S141_6 call t1 t3 t36 t45 H) (S141_6 call t1 t3 t36 U H)
noncomputable def S141_8 (call : CallFn) (t1 t3 t25 t28 : AV) (H : AHeap) : R :=
  pPick t25 t28 (.bool false) H fun t29 H =>
  guardA t29 true (pFa 0 t1 H fun t31 H =>
  ldK .none H t31 fun t32 H =>
  pFa 2 t1 H fun t33 H =>
  ldK .none H t33 fun t34 H =>
  pLeq t32 t34 H fun t35 H =>
  S141_7 call t1 t3 t29 t35 H) (S141_7 call t1 t3 t29 U H)
noncomputable def S141_9 (call : CallFn) (t1 t3 t20 t23 : AV) (H : AHeap) : R :=
  pPick t20 t23 (.bool false) H fun t24 H =>
  guardA t24 true (pFa 2 t1 H fun t26 H =>
  ldK .none H t26 fun t27 H =>
  pLeq t27 (.int .i64 (.ofNat 64)) H fun t28 H =>
  S141_8 call t1 t3 t24 t28 H) (S141_8 call t1 t3 t24 U H)
noncomputable def S141_10 (call : CallFn) (t1 t3 t15 t18 : AV) (H : AHeap) : R :=
  pPick t15 t18 (.bool false) H fun t19 H =>
  guardA t19 true (pFa 2 t1 H fun t21 H =>
  ldK .none H t21 fun t22 H =>
  pGeq t22 (.int .i64 (.ofNat 0)) H fun t23 H =>
  S141_9 call t1 t3 t19 t23 H) (S141_9 call t1 t3 t19 U H)
noncomputable def S141_11 (call : CallFn) (t1 t3 t10 t13 : AV) (H : AHeap) : R :=
  pPick t10 t13 (.bool false) H fun t14 H =>
  guardA t14 true (pFa 1 t1 H fun t16 H =>
  ldK .none H t16 fun t17 H =>
  pLeq t17 (.int .i64 (.ofNat 62)) H fun t18 H =>
  S141_10 call t1 t3 t14 t18 H) (S141_10 call t1 t3 t14 U H)
noncomputable def S141_12 (call : CallFn) (t0 : AV) (H : AHeap) : R :=
  pBox t0 H fun t1 H =>
  pFa 5 t1 H fun t4 H =>
  ldK .none H t4 fun t5 H =>
  pO (aLen .sl H t5) H fun t6 H =>
  pFa 0 t1 H fun t7 H =>
  ldK .none H t7 fun t8 H =>
  pGeq t8 (.int .i64 (.ofNat 0)) H fun t9 H =>
  guardA t9 true (pFa 1 t1 H fun t11 H =>
  ldK .none H t11 fun t12 H =>
  pGeq t12 (.int .i64 (.ofNat 0)) H fun t13 H =>
  S141_11 call t1 t6 t9 t13 H) (S141_11 call t1 t6 t9 U H)
noncomputable def S141 : Ff := ⟨fun call l H => argA1 (fun t0 => S141_12 call t0 H) l⟩
/- slices.Contains[[]int,int] -/
noncomputable def S142_0 (call : CallFn) (t0 t1 : AV) (H : AHeap) : R :=
  pC call 231 [t0, t1] H fun t7 H =>
  pGeq t7 (.int .i64 (.ofNat 0)) H fun t8 H =>
  some (t8, H)
noncomputable def S142 : Ff := ⟨fun call l H => argA2 (fun t0 t1 => S142_0 call t0 t1 H) l⟩
/- (*gantline/verify.checker).rule -/
noncomputable def S143_0 (call : CallFn) (t0 t1 : AV) (H : AHeap) : R :=
  pEql t1 (.int .i64 (.ofNat 4)) H fun t7 H =>
  onBool t7 (pC call 232 [t0] H fun t9 H =>
  some (t9, H)) (pEql t1 (.int .i64 (.ofNat 5)) H fun t11 H =>
  onBool t11 (pC call 233 [t0] H fun t13 H =>
  some (t13, H)) (pEql t1 (.int .i64 (.ofNat 6)) H fun t15 H =>
  onBool t15 (pC call 234 [t0] H fun t17 H =>
  some (t17, H)) (pEql t1 (.int .i64 (.ofNat 7)) H fun t19 H =>
  onBool t19 (pC call 235 [t0] H fun t21 H =>
  some (t21, H)) (pEql t1 (.int .i64 (.ofNat 8)) H fun t23 H =>
  onBool t23 (pC call 236 [t0] H fun t25 H =>
  some (t25, H)) (pEql t1 (.int .i64 (.ofNat 9)) H fun t27 H =>
  onBool t27 (pO (aNil t0) H fun t29 H =>
  pFa 6 t29 H fun t30 H =>
  pFa 6 t30 H fun t31 H =>
  ldK .none H t31 fun t32 H =>
  pO (aNil t0) H fun t34 H =>
  pFa 16 t34 H fun t35 H =>
  ldK .none H t35 fun t36 H =>
  pIa 1 t32 t36 H fun t37 H =>
  ldK .none H t37 fun t38 H =>
  pO (aNil t0) H fun t40 H =>
  pFa 13 t40 H fun t41 H =>
  ldK .none H t41 fun t42 H =>
  pO (aNil t0) H fun t44 H =>
  pFa 16 t44 H fun t45 H =>
  ldK .none H t45 fun t46 H =>
  pIa 1 t42 t46 H fun t47 H =>
  ldK .none H t47 fun t48 H =>
  pEql t38 t48 H fun t49 H =>
  some (t49, H)) (pC call 237 [t0] H fun t51 H =>
  some (t51, H)))))))
noncomputable def S143 : Ff := ⟨fun call l H => argA2 (fun t0 t1 => S143_0 call t0 t1 H) l⟩
/- slices.Clone[[]gantline/head.Shape,gantline/head.Shape] -/
noncomputable def S144_0 (_ : CallFn) (t0 : AV) (H : AHeap) : R :=
  pO (aEq false .sl t0 .nilsl) H fun t4 H =>
  onBool t4 (some (.nilsl, H)) (pN (aBsl 3 0 [(.int .i64 (.ofNat 0)), (.int .i64 (.ofNat 0)), (.int .u64 (.ofNat 0))] []) H fun t5 H =>
  pW (aApp 3 24 H t5 t0) fun t7 H =>
  some (t7, H))
noncomputable def S144 : Ff := ⟨fun call l H => argA1 (fun t0 => S144_0 call t0 H) l⟩
/- slices.Clone[[]bool,bool] -/
noncomputable def S145_0 (_ : CallFn) (t0 : AV) (H : AHeap) : R :=
  pO (aEq false .sl t0 .nilsl) H fun t4 H =>
  onBool t4 (some (.nilsl, H)) (pN (aBsl 1 0 [(.bool false)] []) H fun t5 H =>
  pW (aApp 1 1 H t5 t0) fun t7 H =>
  some (t7, H))
noncomputable def S145 : Ff := ⟨fun call l H => argA1 (fun t0 => S145_0 call t0 H) l⟩
/- slices.Clone[[]int64,int64] -/
noncomputable def S146_0 (_ : CallFn) (t0 : AV) (H : AHeap) : R :=
  pO (aEq false .sl t0 .nilsl) H fun t4 H =>
  onBool t4 (some (.nilsl, H)) (pN (aBsl 1 0 [(.int .i64 (.ofNat 0))] []) H fun t5 H =>
  pW (aApp 1 8 H t5 t0) fun t7 H =>
  some (t7, H))
noncomputable def S146 : Ff := ⟨fun call l H => argA1 (fun t0 => S146_0 call t0 H) l⟩
/- slices.Clone[[]gantline/code.Case,gantline/code.Case] -/
noncomputable def S147_0 (_ : CallFn) (t0 : AV) (H : AHeap) : R :=
  pO (aEq false .sl t0 .nilsl) H fun t4 H =>
  onBool t4 (some (.nilsl, H)) (pN (aBsl 4 0 [(.int .i64 (.ofNat 0)), (.int .i64 (.ofNat 0)), (.int .i64 (.ofNat 0)), (.int .i64 (.ofNat 0))] []) H fun t5 H =>
  pW (aApp 4 32 H t5 t0) fun t7 H =>
  some (t7, H))
noncomputable def S147 : Ff := ⟨fun call l H => argA1 (fun t0 => S147_0 call t0 H) l⟩
/- slices.Clone[[]gantline/code.Func,gantline/code.Func] -/
noncomputable def S148_0 (_ : CallFn) (t0 : AV) (H : AHeap) : R :=
  pO (aEq false .sl t0 .nilsl) H fun t4 H =>
  onBool t4 (some (.nilsl, H)) (pN (aBsl 7 0 [(.int .i64 (.ofNat 0)), (.int .i64 (.ofNat 0)), (.int .i64 (.ofNat 0)), (.int .i64 (.ofNat 0)), .nilsl, .nilsl, .nilsl] []) H fun t5 H =>
  pW (aApp 7 104 H t5 t0) fun t7 H =>
  some (t7, H))
noncomputable def S148 : Ff := ⟨fun call l H => argA1 (fun t0 => S148_0 call t0 H) l⟩
/- slices.Clone[[]gantline/code.Instr,gantline/code.Instr] -/
noncomputable def S149_0 (_ : CallFn) (t0 : AV) (H : AHeap) : R :=
  pO (aEq false .sl t0 .nilsl) H fun t4 H =>
  onBool t4 (some (.nilsl, H)) (pN (aBsl 5 0 [(.int .i64 (.ofNat 0)), (.int .i64 (.ofNat 0)), (.int .i64 (.ofNat 0)), (.int .i64 (.ofNat 0)), (.int .i64 (.ofNat 0))] []) H fun t5 H =>
  pW (aApp 5 40 H t5 t0) fun t7 H =>
  some (t7, H))
noncomputable def S149 : Ff := ⟨fun call l H => argA1 (fun t0 => S149_0 call t0 H) l⟩
/- slices.Clone[[]uint64,uint64] -/
noncomputable def S150_0 (_ : CallFn) (t0 : AV) (H : AHeap) : R :=
  pO (aEq false .sl t0 .nilsl) H fun t4 H =>
  onBool t4 (some (.nilsl, H)) (pN (aBsl 1 0 [(.int .u64 (.ofNat 0))] []) H fun t5 H =>
  pW (aApp 1 8 H t5 t0) fun t7 H =>
  some (t7, H))
noncomputable def S150 : Ff := ⟨fun call l H => argA1 (fun t0 => S150_0 call t0 H) l⟩
/- gantline/emit.targets -/
noncomputable def S151_0 (_ : CallFn) (n : Nat) : AV → AV → AV → AV → AHeap → R :=
  Nat.rec (motive := fun _ => AV → AV → AV → AV → AHeap → R) (fun _ _ _ _ _ => none) (fun _ q0 t5 t32 t33 t34 H => pLss t34 t33 H fun t35 H =>
  onBool t35 (pIa 4 t32 t34 H fun t36 H =>
  ldK (.some 4) H t36 fun t37 H =>
  pNew [(.int .i64 (.ofNat 0)), (.int .i64 (.ofNat 0)), (.int .i64 (.ofNat 0)), (.int .i64 (.ofNat 0))] H fun t9 H =>
  stK 4 H t9 t37 fun _ H =>
  pFa 3 t9 H fun t39 H =>
  ldK .none H t39 fun t40 H =>
  pN (aBsl 1 1 [(.int .i64 (.ofNat 0))] [(0, 1, t40)]) H fun t41 H =>
  pW (aApp 1 8 H t5 t41) fun t42 H =>
  pAdd t34 (.int .i64 (.ofNat 1)) H fun t43 H =>
  q0 t42 t32 t33 t43 H) (some (t5, H))) n
noncomputable def S151_1 (call : CallFn) (t0 t1 : AV) (H : AHeap) : R :=
  pBox t0 H fun t2 H =>
  pBox t1 H fun t3 H =>
  pFa 0 t3 H fun t10 H =>
  ldK .none H t10 fun t11 H =>
  pEql t11 (.int .i64 (.ofNat 18)) H fun t13 H =>
  onBool t13 (pFa 1 t3 H fun t14 H =>
  ldK .none H t14 fun t15 H =>
  pN (aBsl 1 1 [(.int .i64 (.ofNat 0))] [(0, 1, t15)]) H fun t16 H =>
  some (t16, H)) (pEql t11 (.int .i64 (.ofNat 19)) H fun t18 H =>
  onBool t18 (pFa 2 t3 H fun t19 H =>
  ldK .none H t19 fun t20 H =>
  pN (aBsl 1 1 [(.int .i64 (.ofNat 0))] [(0, 1, t20)]) H fun t21 H =>
  some (t21, H)) (ldK (.some 6) H t2 fun t23 H =>
  ldK (.some 5) H t3 fun t24 H =>
  pC call 84 [t23, t24] H fun t25 H =>
  pExt t25 0 H fun t26 H =>
  pExt t25 1 H fun t27 H =>
  pFa 3 t2 H fun t28 H =>
  ldK .none H t28 fun t29 H =>
  pO (aSlice 4 H t29 (.some t26) (.some t27) .none) H fun t32 H =>
  pO (aLen .sl H t32) H fun t33 H =>
  S151_0 call 1000000 .nilsl t32 t33 (.int .i64 (.ofNat 0)) H))
noncomputable def S151 : Ff := ⟨fun call l H => argA2 (fun t0 t1 => S151_1 call t0 t1 H) l⟩
/- gantline/live.Sets -/
noncomputable def S152_0 (_ : CallFn) (t5 : AV) (H : AHeap) : R :=
  ldK .none H t5 fun t52 H =>
  some (t52, H)
noncomputable def S152_3 (_ : CallFn) (q1 : AV → AV → AV → AV → AV → AV → AHeap → R) (t2 t3 t5 t6 t7 t8 : AV) (H : AHeap) : R :=
  pSub t8 (.int .i64 (.ofNat 1)) H fun t24 H =>
  q1 t2 t3 t5 t6 t7 t24 H
noncomputable def S152_2 (call : CallFn) (q0 : AV → AV → AV → AV → AV → AHeap → R) (n : Nat) : AV → AV → AV → AV → AV → AV → AHeap → R :=
  Nat.rec (motive := fun _ => AV → AV → AV → AV → AV → AV → AHeap → R) (fun _ _ _ _ _ _ _ => none) (fun _ q1 t2 t3 t5 t6 t7 t8 H => pGeq t8 (.int .i64 (.ofNat 0)) H fun t22 H =>
  onBool t22 (pFa 5 t3 H fun t25 H =>
  ldK .none H t25 fun t26 H =>
  pIa 5 t26 t8 H fun t28 H =>
  ldK (.some 5) H t28 fun t29 H =>
  pNew [(.int .i64 (.ofNat 0)), (.int .i64 (.ofNat 0)), (.int .i64 (.ofNat 0)), (.int .i64 (.ofNat 0)), (.int .i64 (.ofNat 0))] H fun t9 H =>
  stK 5 H t9 t29 fun _ H =>
  ldK (.some 6) H t2 fun t30 H =>
  ldK (.some 5) H t9 fun t31 H =>
  ldK (.some 5) H t9 fun t37 H =>
  pC call 241 [t30, t31] H fun t32 H =>
  andR (andB (ckV (aLoad (.some 5) H t9) t37) true) (
  pC call 240 [t32] H fun t33 H =>
  andR (andB (ckV (aLoad (.some 5) H t9) t37) true) (
  pV call t6 [t8] H fun t36 H =>
  andR (andB (ckV (aLoad (.some 5) H t9) t37) true) (
  pC call 242 [t37] H fun t38 H =>
  pC call 240 [t38] H fun t39 H =>
  pAndN t36 t39 H fun t40 H =>
  pOr t33 t40 H fun t41 H =>
  ldK .none H t5 fun t43 H =>
  pIa 1 t43 t8 H fun t45 H =>
  ldK .none H t45 fun t46 H =>
  pNeq t41 t46 H fun t47 H =>
  onBool t47 (ldK .none H t5 fun t48 H =>
  pIa 1 t48 t8 H fun t51 H =>
  stK 1 H t51 t41 fun _ H =>
  S152_3 call q1 t2 t3 t5 t6 (.bool true) t8 H) (S152_3 call q1 t2 t3 t5 t6 t7 t8 H))))) (q0 t2 t3 t5 t6 t7 H)) n
noncomputable def S152_1 (call : CallFn) (n : Nat) : AV → AV → AV → AV → AV → AHeap → R :=
  Nat.rec (motive := fun _ => AV → AV → AV → AV → AV → AHeap → R) (fun _ _ _ _ _ _ => none) (fun _ q0 t2 t3 t5 t6 t7 H => onBool t7 (pFa 5 t3 H fun t17 H =>
  ldK .none H t17 fun t18 H =>
  pO (aLen .sl H t18) H fun t19 H =>
  pSub t19 (.int .i64 (.ofNat 1)) H fun t20 H =>
  S152_2 call q0 1000000 t2 t3 t5 t6 (.bool false) t20 H) (S152_0 call t5 H)) n
noncomputable def S152_4 (call : CallFn) (t0 t1 : AV) (H : AHeap) : R :=
  pBox t0 H fun t2 H =>
  pBox t1 H fun t3 H =>
  pFa 5 t3 H fun t11 H =>
  ldK .none H t11 fun t12 H =>
  pO (aLen .sl H t12) H fun t13 H =>
  pN (aMksl 1 8 [(.int .u64 (.ofNat 0))] t13 t13) H fun t14 H =>
  pNew [.nilsl] H fun t5 H =>
  stK 1 H t5 t14 fun _ H =>
  S152_1 call 1000000 t2 t3 t5 (.fn 238 [] [t3, t2, t5]) (.bool true) H
noncomputable def S152 : Ff := ⟨fun call l H => argA2 (fun t0 t1 => S152_4 call t0 t1 H) l⟩
/- slices.Clone[gantline/fresh.states,gantline/fresh.State] -/
noncomputable def S153_0 (_ : CallFn) (t0 : AV) (H : AHeap) : R :=
  pO (aEq false .sl t0 .nilsl) H fun t4 H =>
  onBool t4 (some (.nilsl, H)) (pN (aBsl 3 0 [(.bool false), (.bool false), (.int .u64 (.ofNat 0))] []) H fun t5 H =>
  pW (aApp 3 16 H t5 t0) fun t7 H =>
  some (t7, H))
noncomputable def S153 : Ff := ⟨fun call l H => argA1 (fun t0 => S153_0 call t0 H) l⟩
/- (gantline/fresh.states).lend -/
noncomputable def S154_1 (_ : CallFn) (q0 : AV → AV → AV → AV → AHeap → R) (t0 t6 t7 t8 : AV) (H : AHeap) : R :=
  pAdd t8 (.int .i64 (.ofNat 1)) H fun t24 H =>
  q0 t0 t6 t7 t24 H
noncomputable def S154_2 (call : CallFn) (q0 : AV → AV → AV → AV → AHeap → R) (t0 t5 t6 t7 t8 t14 t18 : AV) (H : AHeap) : R :=
  pPick t14 t18 (.bool false) H fun t19 H =>
  onBool t19 (pIa 3 t0 t5 H fun t22 H =>
  pFa 1 t22 H fun t23 H =>
  stK 1 H t23 (.bool false) fun _ H =>
  S154_1 call q0 t0 t6 t7 t8 H) (S154_1 call q0 t0 t6 t7 t8 H)
noncomputable def S154_0 (call : CallFn) (n : Nat) : AV → AV → AV → AV → AHeap → R :=
  Nat.rec (motive := fun _ => AV → AV → AV → AV → AHeap → R) (fun _ _ _ _ _ => none) (fun _ q0 t0 t6 t7 t8 H => pLss t8 t7 H fun t9 H =>
  onBool t9 (pIa 1 t6 t8 H fun t10 H =>
  ldK .none H t10 fun t11 H =>
  pGeq t11 (.int .i64 (.ofNat 0)) H fun t13 H =>
  guardA t13 true (pO (aLen .sl H t0) H fun t17 H =>
  pLss t11 t17 H fun t18 H =>
  S154_2 call q0 t0 t11 t6 t7 t8 t13 t18 H) (S154_2 call q0 t0 t11 t6 t7 t8 t13 U H)) (some (.tup [], H))) n
noncomputable def S154_3 (call : CallFn) (t0 t1 : AV) (H : AHeap) : R :=
  pO (aLen .sl H t1) H fun t7 H =>
  S154_0 call 1000000 t0 t1 t7 (.int .i64 (.ofNat 0)) H
noncomputable def S154 : Ff := ⟨fun call l H => argA2 (fun t0 t1 => S154_3 call t0 t1 H) l⟩
/- gantline/fresh.sent -/
noncomputable def S155_1 (_ : CallFn) (q0 : AV → AV → AV → AV → AHeap → R) (t5 t49 t50 t51 : AV) (H : AHeap) : R :=
  pAdd t51 (.int .i64 (.ofNat 1)) H fun t63 H =>
  q0 t5 t49 t50 t63 H
noncomputable def S155_0 (call : CallFn) (n : Nat) : AV → AV → AV → AV → AHeap → R :=
  Nat.rec (motive := fun _ => AV → AV → AV → AV → AHeap → R) (fun _ _ _ _ _ => none) (fun _ q0 t5 t49 t50 t51 H => pLss t51 t50 H fun t52 H =>
  onBool t52 (pIa 4 t49 t51 H fun t53 H =>
  ldK (.some 4) H t53 fun t54 H =>
  pNew [(.int .i64 (.ofNat 0)), (.int .i64 (.ofNat 0)), (.int .i64 (.ofNat 0)), (.int .i64 (.ofNat 0))] H fun t7 H =>
  stK 4 H t7 t54 fun _ H =>
  pFa 0 t7 H fun t55 H =>
  ldK .none H t55 fun t56 H =>
  pEql t56 (.int .i64 (.ofNat 1)) H fun t57 H =>
  onBool t57 (pFa 2 t7 H fun t59 H =>
  ldK .none H t59 fun t60 H =>
  pN (aBsl 1 1 [(.int .i64 (.ofNat 0))] [(0, 1, t60)]) H fun t61 H =>
  pW (aApp 1 8 H t5 t61) fun t62 H =>
  S155_1 call q0 t62 t49 t50 t51 H) (S155_1 call q0 t5 t49 t50 t51 H)) (some (t5, H))) n
noncomputable def S155_2 (call : CallFn) (t2 t3 t29 t38 : AV) (H : AHeap) : R :=
  pPick t29 (.bool true) t38 H fun t39 H =>
  onBool t39 (some (.nilsl, H)) (pFa 3 t2 H fun t40 H =>
  ldK .none H t40 fun t41 H =>
  pFa 1 t3 H fun t42 H =>
  ldK .none H t42 fun t43 H =>
  pFa 1 t3 H fun t44 H =>
  ldK .none H t44 fun t45 H =>
  pFa 2 t3 H fun t46 H =>
  ldK .none H t46 fun t47 H =>
  pAdd t45 t47 H fun t48 H =>
  pO (aSlice 4 H t41 (.some t43) (.some t48) .none) H fun t49 H =>
  pO (aLen .sl H t49) H fun t50 H =>
  S155_0 call 1000000 .nilsl t49 t50 (.int .i64 (.ofNat 0)) H)
noncomputable def S155_3 (call : CallFn) (t2 t3 t21 t27 : AV) (H : AHeap) : R :=
  pPick t21 (.bool true) t27 H fun t28 H =>
  guardA t28 false (pFa 2 t3 H fun t30 H =>
  ldK .none H t30 fun t31 H =>
  pFa 3 t2 H fun t32 H =>
  ldK .none H t32 fun t33 H =>
  pO (aLen .sl H t33) H fun t34 H =>
  pFa 1 t3 H fun t35 H =>
  ldK .none H t35 fun t36 H =>
  pSub t34 t36 H fun t37 H =>
  pGtr t31 t37 H fun t38 H =>
  S155_2 call t2 t3 t28 t38 H) (S155_2 call t2 t3 t28 U H)
noncomputable def S155_4 (call : CallFn) (t2 t3 t16 t19 : AV) (H : AHeap) : R :=
  pPick t16 (.bool true) t19 H fun t20 H =>
  guardA t20 false (pFa 1 t3 H fun t22 H =>
  ldK .none H t22 fun t23 H =>
  pFa 3 t2 H fun t24 H =>
  ldK .none H t24 fun t25 H =>
  pO (aLen .sl H t25) H fun t26 H =>
  pGtr t23 t26 H fun t27 H =>
  S155_3 call t2 t3 t20 t27 H) (S155_3 call t2 t3 t20 U H)
noncomputable def S155_5 (call : CallFn) (t2 t3 t11 t14 : AV) (H : AHeap) : R :=
  pPick t11 (.bool true) t14 H fun t15 H =>
  guardA t15 false (pFa 2 t3 H fun t17 H =>
  ldK .none H t17 fun t18 H =>
  pLss t18 (.int .i64 (.ofNat 0)) H fun t19 H =>
  S155_4 call t2 t3 t15 t19 H) (S155_4 call t2 t3 t15 U H)
noncomputable def S155_6 (call : CallFn) (t0 t1 : AV) (H : AHeap) : R :=
  pBox t0 H fun t2 H =>
  pBox t1 H fun t3 H =>
  pFa 0 t3 H fun t8 H =>
  ldK .none H t8 fun t9 H =>
  pNeq t9 (.int .i64 (.ofNat 41)) H fun t10 H =>
  guardA t10 false (pFa 1 t3 H fun t12 H =>
  ldK .none H t12 fun t13 H =>
  pLss t13 (.int .i64 (.ofNat 0)) H fun t14 H =>
  S155_5 call t2 t3 t10 t14 H) (S155_5 call t2 t3 t10 U H)
noncomputable def S155 : Ff := ⟨fun call l H => argA2 (fun t0 t1 => S155_6 call t0 t1 H) l⟩
/- gantline/fresh.behind -/
noncomputable def S156_0 (call : CallFn) (t2 t4 t8 : AV) (H : AHeap) : R :=
  pFa 1 t4 H fun t81 H =>
  ldK .none H t81 fun t82 H =>
  pNeq t8 (.int .i64 (.ofNat 36)) H fun t84 H =>
  pO (someAgg (aFill [(.bool false), (.bool false), (.int .u64 (.ofNat 0))] [(0, 1, (.bool true)), (1, 1, t84)])) H fun t85 H =>
  pC call 245 [t2, t82, t85] H fun _ H =>
  some (t2, H)
noncomputable def S156_1 (call : CallFn) (n : Nat) : AV → AV → AV → AV → AHeap → R :=
  Nat.rec (motive := fun _ => AV → AV → AV → AV → AHeap → R) (fun _ _ _ _ _ => none) (fun _ q0 t2 t59 t60 t61 H => pLss t61 t60 H fun t62 H =>
  onBool t62 (pIa 1 t59 t61 H fun t63 H =>
  ldK .none H t63 fun t64 H =>
  pO (someAgg (aFill [(.bool false), (.bool false), (.int .u64 (.ofNat 0))] [])) H fun t67 H =>
  pC call 245 [t2, t64, t67] H fun _ H =>
  pAdd t61 (.int .i64 (.ofNat 1)) H fun t69 H =>
  q0 t2 t59 t60 t69 H) (some (t2, H))) n
noncomputable def S156_2 (call : CallFn) (t2 t3 t4 : AV) (H : AHeap) : R :=
  ldK (.some 6) H t3 fun t57 H =>
  ldK (.some 5) H t4 fun t58 H =>
  pC call 248 [t57, t58] H fun t59 H =>
  pO (aLen .sl H t59) H fun t60 H =>
  S156_1 call 1000000 t2 t59 t60 (.int .i64 (.ofNat 0)) H
noncomputable def S156_3 (call : CallFn) (n : Nat) : AV → AV → AV → AV → AV → AV → AHeap → R :=
  Nat.rec (motive := fun _ => AV → AV → AV → AV → AV → AV → AHeap → R) (fun _ _ _ _ _ _ _ => none) (fun _ q1 t2 t3 t4 t46 t47 t48 H => pLss t48 t47 H fun t49 H =>
  onBool t49 (pIa 1 t46 t48 H fun t50 H =>
  ldK .none H t50 fun t51 H =>
  pO (someAgg (aFill [(.bool false), (.bool false), (.int .u64 (.ofNat 0))] [])) H fun t54 H =>
  pC call 245 [t2, t51, t54] H fun _ H =>
  pAdd t48 (.int .i64 (.ofNat 1)) H fun t56 H =>
  q1 t2 t3 t4 t46 t47 t56 H) (S156_2 call t2 t3 t4 H)) n
noncomputable def S156_4 (call : CallFn) (t2 t3 t4 : AV) (H : AHeap) : R :=
  ldK (.some 5) H t4 fun t45 H =>
  pC call 242 [t45] H fun t46 H =>
  pO (aLen .sl H t46) H fun t47 H =>
  S156_3 call 1000000 t2 t3 t4 t46 t47 (.int .i64 (.ofNat 0)) H
noncomputable def S156_5 (call : CallFn) (t2 t3 t4 t8 : AV) (H : AHeap) : R :=
  pEql t8 (.int .i64 (.ofNat 38)) H fun t39 H =>
  onBool t39 (pFa 2 t4 H fun t41 H =>
  ldK .none H t41 fun t42 H =>
  pN (aBsl 1 1 [(.int .i64 (.ofNat 0))] [(0, 1, t42)]) H fun t43 H =>
  pC call 154 [t2, t43] H fun _ H =>
  S156_4 call t2 t3 t4 H) (S156_4 call t2 t3 t4 H)
noncomputable def S156_6 (call : CallFn) (t2 t3 t4 t8 t128 t130 : AV) (H : AHeap) : R :=
  pPick t128 (.bool true) t130 H fun t131 H =>
  onBool t131 (pFa 1 t4 H fun t133 H =>
  ldK .none H t133 fun t134 H =>
  pC call 246 [t2, t134, (.int .u64 (.ofNat 18446744073709551615))] H fun _ H =>
  pFa 3 t4 H fun t137 H =>
  ldK .none H t137 fun t138 H =>
  pN (aBsl 1 1 [(.int .i64 (.ofNat 0))] [(0, 1, t138)]) H fun t139 H =>
  pC call 154 [t2, t139] H fun _ H =>
  some (t2, H)) (pC call 247 [t8] H fun t32 H =>
  onBool t32 (ldK (.some 6) H t3 fun t34 H =>
  ldK (.some 5) H t4 fun t35 H =>
  pC call 241 [t34, t35] H fun t36 H =>
  pC call 154 [t2, t36] H fun _ H =>
  S156_5 call t2 t3 t4 t8 H) (S156_5 call t2 t3 t4 t8 H))
noncomputable def S156_7 (call : CallFn) (t2 t3 t4 t8 t109 t111 : AV) (H : AHeap) : R :=
  pPick t109 (.bool true) t111 H fun t112 H =>
  onBool t112 (pFa 1 t4 H fun t114 H =>
  ldK .none H t114 fun t115 H =>
  pFa 2 t4 H fun t116 H =>
  ldK .none H t116 fun t117 H =>
  pC call 161 [t117] H fun t118 H =>
  andR (andB (ckV (aLoad .none H t114) t115) true) (
  pC call 246 [t2, t115, t118] H fun _ H =>
  pFa 3 t4 H fun t121 H =>
  ldK .none H t121 fun t122 H =>
  pN (aBsl 1 1 [(.int .i64 (.ofNat 0))] [(0, 1, t122)]) H fun t123 H =>
  pC call 154 [t2, t123] H fun _ H =>
  some (t2, H))) (pEql t8 (.int .i64 (.ofNat 31)) H fun t127 H =>
  guardA t127 false (pEql t8 (.int .i64 (.ofNat 32)) H fun t130 H =>
  S156_6 call t2 t3 t4 t8 t127 t130 H) (S156_6 call t2 t3 t4 t8 t127 U H))
noncomputable def S156_8 (call : CallFn) (t2 t3 t4 : AV) (H : AHeap) : R :=
  pFa 0 t4 H fun t29 H =>
  ldK .none H t29 fun t30 H =>
  pC call 244 [t30] H fun t72 H =>
  onBool t72 (pEql t30 (.int .i64 (.ofNat 36)) H fun t74 H =>
  onBool t74 (ldK (.some 6) H t3 fun t76 H =>
  ldK (.some 5) H t4 fun t77 H =>
  pC call 241 [t76, t77] H fun t78 H =>
  pC call 154 [t2, t78] H fun _ H =>
  S156_0 call t2 t4 t30 H) (S156_0 call t2 t4 t30 H)) (pEql t30 (.int .i64 (.ofNat 1)) H fun t89 H =>
  onBool t89 (pFa 2 t4 H fun t91 H =>
  ldK .none H t91 fun t92 H =>
  pC call 160 [t2, t92] H fun t93 H =>
  pO (aFld 0 .none t93) H fun t94 H =>
  pFa 2 t4 H fun t96 H =>
  ldK .none H t96 fun t97 H =>
  pN (aBsl 1 1 [(.int .i64 (.ofNat 0))] [(0, 1, t97)]) H fun t98 H =>
  pC call 154 [t2, t98] H fun _ H =>
  pFa 1 t4 H fun t101 H =>
  ldK .none H t101 fun t102 H =>
  pO (someAgg (aFill [(.bool false), (.bool false), (.int .u64 (.ofNat 0))] [(0, 1, t94)])) H fun t104 H =>
  pC call 245 [t2, t102, t104] H fun _ H =>
  some (t2, H)) (pEql t30 (.int .i64 (.ofNat 28)) H fun t108 H =>
  guardA t108 false (pEql t30 (.int .i64 (.ofNat 29)) H fun t111 H =>
  S156_7 call t2 t3 t4 t30 t108 t111 H) (S156_7 call t2 t3 t4 t30 t108 U H)))
noncomputable def S156_9 (call : CallFn) (n : Nat) : AV → AV → AV → AV → AV → AHeap → R :=
  Nat.rec (motive := fun _ => AV → AV → AV → AV → AV → AHeap → R) (fun _ _ _ _ _ _ => none) (fun _ q2 t2 t3 t4 t20 t21 H => pLss t21 t20 H fun t22 H =>
  onBool t22 (pIa 3 t2 t21 H fun t26 H =>
  pFa 0 t26 H fun t27 H =>
  stK 1 H t27 (.bool false) fun _ H =>
  pAdd t21 (.int .i64 (.ofNat 1)) H fun t28 H =>
  q2 t2 t3 t4 t20 t28 H) (S156_8 call t2 t3 t4 H)) n
noncomputable def S156_10 (call : CallFn) (t0 t1 t2 : AV) (H : AHeap) : R :=
  pBox t0 H fun t3 H =>
  pBox t1 H fun t4 H =>
  pC call 153 [t2] H fun t15 H =>
  pFa 0 t4 H fun t16 H =>
  ldK .none H t16 fun t17 H =>
  pC call 243 [t17] H fun t18 H =>
  onBool t18 (pO (aLen .sl H t15) H fun t20 H =>
  S156_9 call 1000000 t15 t3 t4 t20 (.int .i64 (.ofNat 0)) H) (S156_8 call t15 t3 t4 H)
noncomputable def S156 : Ff := ⟨fun call l H => argA3 (fun t0 t1 t2 => S156_10 call t0 t1 t2 H) l⟩
/- gantline/live.Follows -/
noncomputable def S157_0 (call : CallFn) (t4 t7 : AV) (H : AHeap) : R :=
  pC call 249 [t7, (.fn 250 [] [t4])] H fun t63 H =>
  pC call 251 [t63] H fun _ H =>
  pC call 252 [t63] H fun t67 H =>
  some (t67, H)
noncomputable def S157_1 (call : CallFn) (n : Nat) : AV → AV → AV → AV → AV → AHeap → R :=
  Nat.rec (motive := fun _ => AV → AV → AV → AV → AV → AHeap → R) (fun _ _ _ _ _ _ => none) (fun _ q0 t4 t7 t49 t50 t51 H => pLss t51 t50 H fun t52 H =>
  onBool t52 (pIa 4 t49 t51 H fun t53 H =>
  ldK (.some 4) H t53 fun t54 H =>
  pNew [(.int .i64 (.ofNat 0)), (.int .i64 (.ofNat 0)), (.int .i64 (.ofNat 0)), (.int .i64 (.ofNat 0))] H fun t10 H =>
  stK 4 H t10 t54 fun _ H =>
  pFa 3 t10 H fun t56 H =>
  ldK .none H t56 fun t57 H =>
  pN (aBsl 1 1 [(.int .i64 (.ofNat 0))] [(0, 1, t57)]) H fun t58 H =>
  pW (aApp 1 8 H t7 t58) fun t59 H =>
  pAdd t51 (.int .i64 (.ofNat 1)) H fun t60 H =>
  q0 t4 t59 t49 t50 t60 H) (S157_0 call t4 t7 H)) n
noncomputable def S157_2 (call : CallFn) (t2 t3 t4 t7 t8 t26 t42 : AV) (H : AHeap) : R :=
  onBool t42 (S157_0 call t4 t7 H) (pEql t26 (.int .i64 (.ofNat 41)) H fun t46 H =>
  onBool t46 (ldK (.some 6) H t3 fun t47 H =>
  ldK (.some 5) H t8 fun t48 H =>
  pC call 239 [t47, t48] H fun t49 H =>
  pO (aLen .sl H t49) H fun t50 H =>
  S157_1 call 1000000 t4 t7 t49 t50 (.int .i64 (.ofNat 0)) H) (pAdd t2 (.int .i64 (.ofNat 1)) H fun t28 H =>
  pN (aBsl 1 1 [(.int .i64 (.ofNat 0))] [(0, 1, t28)]) H fun t29 H =>
  S157_0 call t4 t29 H))
noncomputable def S157_3 (call : CallFn) (t2 t3 t4 t13 t18 : AV) (H : AHeap) : R :=
  pPick t13 (.bool true) t18 H fun t19 H =>
  onBool t19 (some (.nilsl, H)) (pFa 5 t4 H fun t20 H =>
  ldK .none H t20 fun t21 H =>
  pIa 5 t21 t2 H fun t23 H =>
  ldK (.some 5) H t23 fun t24 H =>
  pNew [(.int .i64 (.ofNat 0)), (.int .i64 (.ofNat 0)), (.int .i64 (.ofNat 0)), (.int .i64 (.ofNat 0)), (.int .i64 (.ofNat 0))] H fun t8 H =>
  stK 5 H t8 t24 fun _ H =>
  pFa 0 t8 H fun t25 H =>
  ldK .none H t25 fun t26 H =>
  pEql t26 (.int .i64 (.ofNat 18)) H fun t31 H =>
  onBool t31 (pFa 1 t8 H fun t32 H =>
  ldK .none H t32 fun t33 H =>
  pN (aBsl 1 1 [(.int .i64 (.ofNat 0))] [(0, 1, t33)]) H fun t34 H =>
  S157_0 call t4 t34 H) (pEql t26 (.int .i64 (.ofNat 19)) H fun t36 H =>
  onBool t36 (pFa 2 t8 H fun t37 H =>
  ldK .none H t37 fun t38 H =>
  pAdd t2 (.int .i64 (.ofNat 1)) H fun t40 H =>
  pN (aBsl 1 2 [(.int .i64 (.ofNat 0))] [(0, 1, t38), (1, 1, t40)]) H fun t41 H =>
  S157_0 call t4 t41 H) (pEql t26 (.int .i64 (.ofNat 22)) H fun t43 H =>
  onBool t43 (S157_2 call t2 t3 t4 .nilsl t8 t26 t43 H) (pEql t26 (.int .i64 (.ofNat 44)) H fun t44 H =>
  S157_2 call t2 t3 t4 .nilsl t8 t26 t44 H))))
noncomputable def S157_4 (call : CallFn) (t0 t1 t2 : AV) (H : AHeap) : R :=
  pBox t0 H fun t3 H =>
  pBox t1 H fun t4 H =>
  pLss t2 (.int .i64 (.ofNat 0)) H fun t12 H =>
  guardA t12 false (pFa 5 t4 H fun t15 H =>
  ldK .none H t15 fun t16 H =>
  pO (aLen .sl H t16) H fun t17 H =>
  pGeq t2 t17 H fun t18 H =>
  S157_3 call t2 t3 t4 t12 t18 H) (S157_3 call t2 t3 t4 t12 U H)
noncomputable def S157 : Ff := ⟨fun call l H => argA3 (fun t0 t1 t2 => S157_4 call t0 t1 t2 H) l⟩
/- math/bits.Len64 -/
noncomputable def S163_0 (_ : CallFn) (t0 t2 : AV) (H : AHeap) : R :=
  pConv .u8 t0 H fun t21 H =>
  pO (aIdxS (.str [0, 1, 2, 2, 3, 3, 3, 3, 4, 4, 4, 4, 4, 4, 4, 4, 5, 5, 5, 5, 5, 5, 5, 5, 5, 5, 5, 5, 5, 5, 5, 5, 6, 6, 6, 6, 6, 6, 6, 6, 6, 6, 6, 6, 6, 6, 6, 6, 6, 6, 6, 6, 6, 6, 6, 6, 6, 6, 6, 6, 6, 6, 6, 6, 7, 7, 7, 7, 7, 7, 7, 7, 7, 7, 7, 7, 7, 7, 7, 7, 7, 7, 7, 7, 7, 7, 7, 7, 7, 7, 7, 7, 7, 7, 7, 7, 7, 7, 7, 7, 7, 7, 7, 7, 7, 7, 7, 7, 7, 7, 7, 7, 7, 7, 7, 7, 7, 7, 7, 7, 7, 7, 7, 7, 7, 7, 7, 7, 8, 8, 8, 8, 8, 8, 8, 8, 8, 8, 8, 8, 8, 8, 8, 8, 8, 8, 8, 8, 8, 8, 8, 8, 8, 8, 8, 8, 8, 8, 8, 8, 8, 8, 8, 8, 8, 8, 8, 8, 8, 8, 8, 8, 8, 8, 8, 8, 8, 8, 8, 8, 8, 8, 8, 8, 8, 8, 8, 8, 8, 8, 8, 8, 8, 8, 8, 8, 8, 8, 8, 8, 8, 8, 8, 8, 8, 8, 8, 8, 8, 8, 8, 8, 8, 8, 8, 8, 8, 8, 8, 8, 8, 8, 8, 8, 8, 8, 8, 8, 8, 8, 8, 8, 8, 8, 8, 8, 8, 8, 8, 8, 8, 8, 8, 8, 8, 8, 8, 8, 8, 8, 8, 8, 8, 8, 8, 8]) t21) H fun t22 H =>
  pConv .i64 t22 H fun t23 H =>
  pAdd t2 t23 H fun t24 H =>
  some (t24, H)
noncomputable def S163_1 (call : CallFn) (t0 t2 : AV) (H : AHeap) : R :=
  pGeq t0 (.int .u64 (.ofNat 256)) H fun t14 H =>
  onBool t14 (pO (aBin .shr t0 (.int .u64 (.ofNat 8))) H fun t16 H =>
  pAdd t2 (.int .i64 (.ofNat 8)) H fun t18 H =>
  S163_0 call t16 t18 H) (S163_0 call t0 t2 H)
noncomputable def S163_2 (call : CallFn) (t0 t2 : AV) (H : AHeap) : R :=
  pGeq t0 (.int .u64 (.ofNat 65536)) H fun t8 H =>
  onBool t8 (pO (aBin .shr t0 (.int .u64 (.ofNat 16))) H fun t10 H =>
  pAdd t2 (.int .i64 (.ofNat 16)) H fun t12 H =>
  S163_1 call t10 t12 H) (S163_1 call t0 t2 H)
noncomputable def S163_3 (call : CallFn) (t0 : AV) (H : AHeap) : R :=
  pGeq t0 (.int .u64 (.ofNat 4294967296)) H fun t4 H =>
  onBool t4 (pO (aBin .shr t0 (.int .u64 (.ofNat 32))) H fun t6 H =>
  S163_2 call t6 (.int .i64 (.ofNat 32)) H) (S163_2 call t0 (.int .i64 (.ofNat 0)) H)
noncomputable def S163 : Ff := ⟨fun call l H => argA1 (fun t0 => S163_3 call t0 H) l⟩
/- gantline/verify.Check -/
noncomputable def S167_0 (call : CallFn) (t0 : AV) (H : AHeap) : R :=
  pBox t0 H fun t1 H =>
  pNew [(.int .i64 (.ofNat 0)), (.int .i64 (.ofNat 0)), (.int .i64 (.ofNat 0))] H fun t2 H =>
  ldK (.some 6) H t1 fun t4 H =>
  pC call 80 [t4, .nilsl] H fun t5 H =>
  pExt t5 0 H fun t6 H =>
  pExt t5 1 H fun t7 H =>
  stK 3 H t2 t6 fun _ H =>
  ob (allM (fun o => o) [aLoad (.some 3) H t2, some t7]) fun vs => some (resV vs, H)
noncomputable def S167 : Ff := ⟨fun call l H => argA1 (fun t0 => S167_0 call t0 H) l⟩
/- gantline/cycle.New -/
noncomputable def S168_0 (call : CallFn) (t0 : AV) (H : AHeap) : R :=
  pC call 255 [t0] H fun t9 H =>
  pExt t9 0 H fun t10 H =>
  pExt t9 1 H fun t11 H =>
  pNeq t11 (.int .i64 (.ofNat 0)) H fun t13 H =>
  onBool t13 (some (.tup [.nilp, t11], H)) (pC call 256 [] H fun t15 H =>
  pC call 257 [t10] H fun t19 H =>
  pC call 258 [t10, t15] H fun t22 H =>
  pMap H fun t23 H =>
  pO (someAgg (aFill [.nilp, .nilp, .nilp, .nilp, (.int .i64 (.ofNat 0)), .nilmap, (.int .i64 (.ofNat 0)), (.int .i64 (.ofNat 0))] [(0, 1, t10), (1, 1, t15), (2, 1, t19), (3, 1, t22), (5, 1, t23), (7, 1, (.int .i64 (.ofNat 64)))])) H fun t24 H =>
  pBox t24 H fun t25 H =>
  some (.tup [t25, (.int .i64 (.ofNat 0))], H))
noncomputable def S168 : Ff := ⟨fun call l H => argA1 (fun t0 => S168_0 call t0 H) l⟩
/- gantline/frame.New -/
noncomputable def S171_0 (call : CallFn) (t0 t1 t2 : AV) (H : AHeap) : R :=
  pBox t0 H fun t3 H =>
  ldK (.some 6) H t3 fun t11 H =>
  pC call 259 [t11, t1, t2] H fun t14 H =>
  pExt t14 0 H fun t15 H =>
  pExt t14 1 H fun t16 H =>
  pNew [(.int .i64 (.ofNat 0)), (.int .i64 (.ofNat 0)), .nilsl] H fun t8 H =>
  stK 3 H t8 t15 fun _ H =>
  pNeq t16 (.int .i64 (.ofNat 0)) H fun t18 H =>
  onBool t18 (some (.tup [.nilp, t16], H)) (ldK (.some 3) H t8 fun t20 H =>
  pN (aBsl 3 1 [(.int .i64 (.ofNat 0)), (.int .i64 (.ofNat 0)), .nilsl] [(0, 3, t20)]) H fun t21 H =>
  pO (someAgg (aFill [.nilsl] [(0, 1, t21)])) H fun t22 H =>
  pBox t22 H fun t23 H =>
  some (.tup [t23, (.int .i64 (.ofNat 0))], H))
noncomputable def S171 : Ff := ⟨fun call l H => argA3 (fun t0 t1 t2 => S171_0 call t0 t1 t2 H) l⟩
/- (*gantline/sched.Table).Enabled -/
noncomputable def S172_0 (call : CallFn) (t0 t1 : AV) (H : AHeap) : R :=
  pBox t0 H fun t2 H =>
  pBox t1 H fun t3 H =>
  ldK .none H t2 fun t5 H =>
  pC call 260 [t5] H fun t6 H =>
  pC call 249 [t6, (.fn 261 [] [t2, t3])] H fun t8 H =>
  some (t8, H)
noncomputable def S172 : Ff := ⟨fun call l H => argA2 (fun t0 t1 => S172_0 call t0 t1 H) l⟩
end Go.Proofs.YtooindilclphjaaGreatDoor
