/- Plain functions, printed: part 1. -/
import Derived.Test.YtlmmhkcimjjakaaGreatDoorAdE
import Derived.Test.YtlmmhkcimjjakaaGreatDoorProg
import Derived.KernelRfl
namespace Go.Proofs.YtlmmhkcimjjakaaGreatDoor
open Go.Ab
set_option maxRecDepth 100000
/- gantline/verify.Check -/
noncomputable def S71_0 (call : CallFn) (t0 : AV) (H : AHeap) : R :=
  pBox t0 H fun t1 H =>
  pNew [(.int .i64 (.ofNat 0)), (.int .i64 (.ofNat 0)), (.int .i64 (.ofNat 0))] H fun t2 H =>
  ldK (.some 6) H t1 fun t4 H =>
  pC call 107 [t4, .nilsl] H fun t5 H =>
  pExt t5 0 H fun t6 H =>
  pExt t5 1 H fun t7 H =>
  stK 3 H t2 t6 fun _ H =>
  ob (allM (fun o => o) [aLoad (.some 3) H t2, some t7]) fun vs => some (resV vs, H)
noncomputable def S71 : Ff := ⟨fun call l H => argA1 (fun t0 => S71_0 call t0 H) l⟩
/- gantline/cycle.New -/
noncomputable def S72_0 (call : CallFn) (t0 : AV) (H : AHeap) : R :=
  pC call 108 [t0] H fun t9 H =>
  pExt t9 0 H fun t10 H =>
  pExt t9 1 H fun t11 H =>
  pNeq t11 (.int .i64 (.ofNat 0)) H fun t13 H =>
  onBool t13 (some (.tup [.nilp, t11], H)) (pC call 109 [] H fun t15 H =>
  pC call 110 [t10] H fun t19 H =>
  pC call 111 [t10, t15] H fun t22 H =>
  pMap H fun t23 H =>
  pO (someAgg (aFill [.nilp, .nilp, .nilp, .nilp, (.int .i64 (.ofNat 0)), .nilmap, (.int .i64 (.ofNat 0)), (.int .i64 (.ofNat 0))] [(0, 1, t10), (1, 1, t15), (2, 1, t19), (3, 1, t22), (5, 1, t23), (7, 1, (.int .i64 (.ofNat 64)))])) H fun t24 H =>
  pBox t24 H fun t25 H =>
  some (.tup [t25, (.int .i64 (.ofNat 0))], H))
noncomputable def S72 : Ff := ⟨fun call l H => argA1 (fun t0 => S72_0 call t0 H) l⟩
/- (*gantline/cycle.Cycle).Table -/
noncomputable def S73_0 (_ : CallFn) (t0 : AV) (H : AHeap) : R :=
  pO (aNil t0) H fun t4 H =>
  pFa 1 t4 H fun t5 H =>
  ldK .none H t5 fun t6 H =>
  some (t6, H)
noncomputable def S73 : Ff := ⟨fun call l H => argA1 (fun t0 => S73_0 call t0 H) l⟩
/- (*gantline/head.Table).Number -/
noncomputable def S74_0 (call : CallFn) (t0 t1 : AV) (H : AHeap) : R :=
  pBox t1 H fun t3 H =>
  ldK (.some 3) H t3 fun t8 H =>
  pC call 112 [t8] H fun t9 H =>
  pO (aUn .not t9) H fun t10 H =>
  onBool t10 (some (.tup [(.int .i64 (.ofNat 0)), (.int .i64 (.ofNat 1))], H)) (pO (aNil t0) H fun t13 H =>
  pFa 1 t13 H fun t14 H =>
  ldK .none H t14 fun t15 H =>
  ldK (.some 3) H t3 fun t16 H =>
  pO (aLook (.struct [(0, .none, .int), (1, .none, .int), (2, .none, .int)]) (.int .i64 (.ofNat 0)) true H t15 t16) H fun t17 H =>
  pExt t17 0 H fun t18 H =>
  pExt t17 1 H fun t19 H =>
  onBool t19 (some (.tup [t18, (.int .i64 (.ofNat 0))], H)) (pO (aNil t0) H fun t23 H =>
  pFa 0 t23 H fun t24 H =>
  ldK .none H t24 fun t25 H =>
  pO (aLen .sl H t25) H fun t26 H =>
  pEql t26 (.int .i64 (.ofNat 65536)) H fun t27 H =>
  onBool t27 (some (.tup [(.int .i64 (.ofNat 0)), (.int .i64 (.ofNat 2))], H)) (pO (aNil t0) H fun t29 H =>
  pFa 1 t29 H fun t30 H =>
  ldK .none H t30 fun t31 H =>
  ldK (.some 3) H t3 fun t32 H =>
  pO (aNil t0) H fun t34 H =>
  pFa 0 t34 H fun t35 H =>
  ldK .none H t35 fun t36 H =>
  pO (aLen .sl H t36) H fun t37 H =>
  pW (unitW (aMapUp (.struct [(0, .none, .int), (1, .none, .int), (2, .none, .int)]) H t31 t32 t37)) fun _ H =>
  pO (aNil t0) H fun t40 H =>
  pFa 0 t40 H fun t41 H =>
  ldK .none H t41 fun t42 H =>
  ldK (.some 3) H t3 fun t43 H =>
  pN (aBsl 3 1 [(.int .i64 (.ofNat 0)), (.int .i64 (.ofNat 0)), (.int .u64 (.ofNat 0))] [(0, 3, t43)]) H fun t44 H =>
  pW (aApp 3 24 H t42 t44) fun t45 H =>
  pO (aNil t0) H fun t46 H =>
  pFa 0 t46 H fun t47 H =>
  stK 1 H t47 t45 fun _ H =>
  pO (aNil t0) H fun t49 H =>
  pFa 0 t49 H fun t50 H =>
  ldK .none H t50 fun t51 H =>
  pO (aLen .sl H t51) H fun t52 H =>
  pSub t52 (.int .i64 (.ofNat 1)) H fun t53 H =>
  some (.tup [t53, (.int .i64 (.ofNat 0))], H))))
noncomputable def S74 : Ff := ⟨fun call l H => argA2 (fun t0 t1 => S74_0 call t0 t1 H) l⟩
/- slices.Clone[[]gantline/head.Shape,gantline/head.Shape] -/
noncomputable def S75_0 (_ : CallFn) (t0 : AV) (H : AHeap) : R :=
  pO (aEq false .sl t0 .nilsl) H fun t4 H =>
  onBool t4 (some (.nilsl, H)) (pN (aBsl 3 0 [(.int .i64 (.ofNat 0)), (.int .i64 (.ofNat 0)), (.int .u64 (.ofNat 0))] []) H fun t5 H =>
  pW (aApp 3 24 H t5 t0) fun t7 H =>
  some (t7, H))
noncomputable def S75 : Ff := ⟨fun call l H => argA1 (fun t0 => S75_0 call t0 H) l⟩
/- slices.Clone[[]bool,bool] -/
noncomputable def S76_0 (_ : CallFn) (t0 : AV) (H : AHeap) : R :=
  pO (aEq false .sl t0 .nilsl) H fun t4 H =>
  onBool t4 (some (.nilsl, H)) (pN (aBsl 1 0 [(.bool false)] []) H fun t5 H =>
  pW (aApp 1 1 H t5 t0) fun t7 H =>
  some (t7, H))
noncomputable def S76 : Ff := ⟨fun call l H => argA1 (fun t0 => S76_0 call t0 H) l⟩
/- slices.Clone[[]int64,int64] -/
noncomputable def S77_0 (_ : CallFn) (t0 : AV) (H : AHeap) : R :=
  pO (aEq false .sl t0 .nilsl) H fun t4 H =>
  onBool t4 (some (.nilsl, H)) (pN (aBsl 1 0 [(.int .i64 (.ofNat 0))] []) H fun t5 H =>
  pW (aApp 1 8 H t5 t0) fun t7 H =>
  some (t7, H))
noncomputable def S77 : Ff := ⟨fun call l H => argA1 (fun t0 => S77_0 call t0 H) l⟩
/- slices.Clone[[]gantline/code.Case,gantline/code.Case] -/
noncomputable def S78_0 (_ : CallFn) (t0 : AV) (H : AHeap) : R :=
  pO (aEq false .sl t0 .nilsl) H fun t4 H =>
  onBool t4 (some (.nilsl, H)) (pN (aBsl 4 0 [(.int .i64 (.ofNat 0)), (.int .i64 (.ofNat 0)), (.int .i64 (.ofNat 0)), (.int .i64 (.ofNat 0))] []) H fun t5 H =>
  pW (aApp 4 32 H t5 t0) fun t7 H =>
  some (t7, H))
noncomputable def S78 : Ff := ⟨fun call l H => argA1 (fun t0 => S78_0 call t0 H) l⟩
/- slices.Clone[[]gantline/code.Func,gantline/code.Func] -/
noncomputable def S79_0 (_ : CallFn) (t0 : AV) (H : AHeap) : R :=
  pO (aEq false .sl t0 .nilsl) H fun t4 H =>
  onBool t4 (some (.nilsl, H)) (pN (aBsl 7 0 [(.int .i64 (.ofNat 0)), (.int .i64 (.ofNat 0)), (.int .i64 (.ofNat 0)), (.int .i64 (.ofNat 0)), .nilsl, .nilsl, .nilsl] []) H fun t5 H =>
  pW (aApp 7 104 H t5 t0) fun t7 H =>
  some (t7, H))
noncomputable def S79 : Ff := ⟨fun call l H => argA1 (fun t0 => S79_0 call t0 H) l⟩
/- slices.Clone[[]gantline/code.Instr,gantline/code.Instr] -/
noncomputable def S80_0 (_ : CallFn) (t0 : AV) (H : AHeap) : R :=
  pO (aEq false .sl t0 .nilsl) H fun t4 H =>
  onBool t4 (some (.nilsl, H)) (pN (aBsl 5 0 [(.int .i64 (.ofNat 0)), (.int .i64 (.ofNat 0)), (.int .i64 (.ofNat 0)), (.int .i64 (.ofNat 0)), (.int .i64 (.ofNat 0))] []) H fun t5 H =>
  pW (aApp 5 40 H t5 t0) fun t7 H =>
  some (t7, H))
noncomputable def S80 : Ff := ⟨fun call l H => argA1 (fun t0 => S80_0 call t0 H) l⟩
/- slices.Clone[[]uint64,uint64] -/
noncomputable def S81_0 (_ : CallFn) (t0 : AV) (H : AHeap) : R :=
  pO (aEq false .sl t0 .nilsl) H fun t4 H =>
  onBool t4 (some (.nilsl, H)) (pN (aBsl 1 0 [(.int .u64 (.ofNat 0))] []) H fun t5 H =>
  pW (aApp 1 8 H t5 t0) fun t7 H =>
  some (t7, H))
noncomputable def S81 : Ff := ⟨fun call l H => argA1 (fun t0 => S81_0 call t0 H) l⟩
/- gantline/frame.New -/
noncomputable def S82_0 (call : CallFn) (t0 t1 t2 : AV) (H : AHeap) : R :=
  pBox t0 H fun t3 H =>
  ldK (.some 6) H t3 fun t11 H =>
  pC call 113 [t11, t1, t2] H fun t14 H =>
  pExt t14 0 H fun t15 H =>
  pExt t14 1 H fun t16 H =>
  pNew [(.int .i64 (.ofNat 0)), (.int .i64 (.ofNat 0)), .nilsl] H fun t8 H =>
  stK 3 H t8 t15 fun _ H =>
  pNeq t16 (.int .i64 (.ofNat 0)) H fun t18 H =>
  onBool t18 (some (.tup [.nilp, t16], H)) (ldK (.some 3) H t8 fun t20 H =>
  pN (aBsl 3 1 [(.int .i64 (.ofNat 0)), (.int .i64 (.ofNat 0)), .nilsl] [(0, 3, t20)]) H fun t21 H =>
  pO (someAgg (aFill [.nilsl] [(0, 1, t21)])) H fun t22 H =>
  pBox t22 H fun t23 H =>
  some (.tup [t23, (.int .i64 (.ofNat 0))], H))
noncomputable def S82 : Ff := ⟨fun call l H => argA3 (fun t0 t1 t2 => S82_0 call t0 t1 t2 H) l⟩
/- (*gantline/sched.Table).Enabled -/
noncomputable def S83_0 (call : CallFn) (t0 t1 : AV) (H : AHeap) : R :=
  pBox t0 H fun t2 H =>
  pBox t1 H fun t3 H =>
  ldK .none H t2 fun t5 H =>
  pC call 114 [t5] H fun t6 H =>
  pC call 99 [t6, (.fn 115 [] [t2, t3])] H fun t8 H =>
  some (t8, H)
noncomputable def S83 : Ff := ⟨fun call l H => argA2 (fun t0 t1 => S83_0 call t0 t1 H) l⟩
/- (*gantline/cycle.Cycle).Step -/
noncomputable def S84_0 (call : CallFn) (t0 t1 : AV) (H : AHeap) : R :=
  pO (aNil t0) H fun t10 H =>
  pFa 4 t10 H fun t11 H =>
  ldK .none H t11 fun t12 H =>
  pEql t12 (.int .i64 (.ofNat 1)) H fun t14 H =>
  onBool t14 (pC call 117 [t0, t1] H fun t18 H =>
  pExt t18 0 H fun t19 H =>
  pExt t18 1 H fun t20 H =>
  onBool t20 (pC call 118 [t0, t1, t19] H fun _ H =>
  some ((.bool true), H)) (pO (aNil t0) H fun t27 H =>
  pFa 4 t27 H fun t28 H =>
  stK 1 H t28 (.int .i64 (.ofNat 2)) fun _ H =>
  some ((.bool true), H))) (pEql t12 (.int .i64 (.ofNat 2)) H fun t30 H =>
  onBool t30 (pO (aNil t0) H fun t32 H =>
  pFa 3 t32 H fun t33 H =>
  ldK .none H t33 fun t34 H =>
  pC call 119 [t34] H fun t35 H =>
  onBool t35 (some ((.bool true), H)) (pC call 117 [t0, t1] H fun t39 H =>
  pExt t39 0 H fun _ H =>
  pExt t39 1 H fun t41 H =>
  onBool t41 (pO (aNil t0) H fun t44 H =>
  pFa 4 t44 H fun t45 H =>
  stK 1 H t45 (.int .i64 (.ofNat 1)) fun _ H =>
  some ((.bool true), H)) (pO (aNil t0) H fun t47 H =>
  pFa 4 t47 H fun t48 H =>
  stK 1 H t48 (.int .i64 (.ofNat 3)) fun _ H =>
  pO (aNil t0) H fun t50 H =>
  pFa 2 t50 H fun t51 H =>
  ldK .none H t51 fun t52 H =>
  pC call 120 [t52] H fun _ H =>
  some ((.bool true), H)))) (pEql t12 (.int .i64 (.ofNat 3)) H fun t55 H =>
  onBool t55 (pO (aNil t0) H fun t57 H =>
  pFa 2 t57 H fun t58 H =>
  ldK .none H t58 fun t59 H =>
  pC call 121 [t59] H fun t60 H =>
  pO (aUn .not t60) H fun t61 H =>
  onBool t61 (pO (aNil t0) H fun t63 H =>
  pFa 4 t63 H fun t64 H =>
  stK 1 H t64 (.int .i64 (.ofNat 0)) fun _ H =>
  pO (aNil t0) H fun t66 H =>
  pFa 6 t66 H fun t67 H =>
  ldK .none H t67 fun t68 H =>
  pAdd t68 (.int .i64 (.ofNat 1)) H fun t69 H =>
  pO (aNil t0) H fun t70 H =>
  pFa 6 t70 H fun t71 H =>
  stK 1 H t71 t69 fun _ H =>
  pO (aNil t0) H fun t74 H =>
  pFa 2 t74 H fun t75 H =>
  ldK .none H t75 fun t76 H =>
  pC call 122 [t76] H fun t77 H =>
  pO (aMinMax true t77 (.int .i64 (.ofNat 64))) H fun t78 H =>
  pO (aNil t0) H fun t79 H =>
  pFa 7 t79 H fun t80 H =>
  stK 1 H t80 t78 fun _ H =>
  some ((.bool true), H)) (some ((.bool true), H))) (some ((.bool false), H))))
noncomputable def S84 : Ff := ⟨fun call l H => argA2 (fun t0 t1 => S84_0 call t0 t1 H) l⟩
/- (*gantline/cycle.Cycle).Start -/
noncomputable def S85_0 (call : CallFn) (t0 t1 : AV) (H : AHeap) : R :=
  pO (aNil t0) H fun t6 H =>
  pFa 4 t6 H fun t7 H =>
  ldK .none H t7 fun t8 H =>
  pNeq t8 (.int .i64 (.ofNat 0)) H fun t9 H =>
  onBool t9 (some ((.bool false), H)) (pO (aNil t0) H fun t11 H =>
  pFa 0 t11 H fun t12 H =>
  ldK .none H t12 fun t13 H =>
  pC call 123 [t13] H fun _ H =>
  pO (aNil t0) H fun t16 H =>
  pFa 4 t16 H fun t17 H =>
  stK 1 H t17 (.int .i64 (.ofNat 1)) fun _ H =>
  pO (aNil t0) H fun t19 H =>
  pFa 5 t19 H fun t20 H =>
  ldK .none H t20 fun t21 H =>
  pW (unitW (aClearM H t21)) fun _ H =>
  pI Tryz.prog call t1 "Globals" [] H fun t24 H =>
  pC call 124 [t0, t24] H fun _ H =>
  some ((.bool true), H))
noncomputable def S85 : Ff := ⟨fun call l H => argA2 (fun t0 t1 => S85_0 call t0 t1 H) l⟩
/- (*gantline/vm.Machine).WaysOf -/
noncomputable def S86_0 (call : CallFn) (t0 t1 : AV) (H : AHeap) : R :=
  pO (aNil t0) H fun t6 H =>
  pFa 11 t6 H fun t7 H =>
  ldK .none H t7 fun t8 H =>
  pNeq t8 (.int .i64 (.ofNat 0)) H fun t9 H =>
  onBool t9 (some (.nilsl, H)) (pO (aNil t0) H fun t11 H =>
  pFa 7 t11 H fun t12 H =>
  ldK .none H t12 fun t13 H =>
  pO (aNil t0) H fun t15 H =>
  pFa 6 t15 H fun t16 H =>
  ldK .none H t16 fun t17 H =>
  pC call 116 [t13, t17, t1] H fun t19 H =>
  some (t19, H))
noncomputable def S86 : Ff := ⟨fun call l H => argA2 (fun t0 t1 => S86_0 call t0 t1 H) l⟩
/- (*gantline/sched.Table).Stack -/
noncomputable def S87_0 (_ : CallFn) (t0 t1 : AV) (H : AHeap) : R :=
  pO (aNil t0) H fun t6 H =>
  pFa 6 t6 H fun t7 H =>
  ldK .none H t7 fun t8 H =>
  pO (aLook .int .nilp false H t8 t1) H fun t10 H =>
  some (t10, H)
noncomputable def S87 : Ff := ⟨fun call l H => argA2 (fun t0 t1 => S87_0 call t0 t1 H) l⟩
/- (*gantline/frame.Stack).At -/
noncomputable def S88_0 (_ : CallFn) (t3 t4 t6 t35 t50 : AV) (H : AHeap) : R :=
  pPick t35 (.bool true) t50 H fun t51 H =>
  onBool t51 (pO (someAgg (aFill [(.int .i64 (.ofNat 0)), (.int .i64 (.ofNat 0)), (.int .i64 (.ofNat 0)), (.int .i64 (.ofNat 0)), (.int .i64 (.ofNat 0))] [])) H fun t52 H =>
  stK 5 H t4 t52 fun _ H =>
  ob (allM (fun o => o) [aLoad (.some 5) H t4, some (.bool false)]) fun vs => some (resV vs, H)) (pFa 4 t3 H fun t53 H =>
  ldK .none H t53 fun t54 H =>
  pO (aNil t6) H fun t56 H =>
  pFa 0 t56 H fun t57 H =>
  ldK .none H t57 fun t58 H =>
  pIa 7 t54 t58 H fun t59 H =>
  pFa 5 t59 H fun t60 H =>
  ldK .none H t60 fun t61 H =>
  pO (aNil t6) H fun t63 H =>
  pFa 1 t63 H fun t64 H =>
  ldK .none H t64 fun t65 H =>
  pIa 5 t61 t65 H fun t66 H =>
  ldK (.some 5) H t66 fun t67 H =>
  stK 5 H t4 t67 fun _ H =>
  ob (allM (fun o => o) [aLoad (.some 5) H t4, some (.bool true)]) fun vs => some (resV vs, H))
noncomputable def S88_1 (call : CallFn) (t3 t4 t6 t35 t39 t49 : AV) (H : AHeap) : R :=
  guardA t35 false (pGeq t39 t49 H fun t50 H =>
  S88_0 call t3 t4 t6 t35 t50 H) (S88_0 call t3 t4 t6 t35 U H)
noncomputable def S88_2 (call : CallFn) (t3 t4 t6 t35 t39 t48 : AV) (H : AHeap) : R :=
  guardA t35 false (pO (aLen .sl H t48) H fun t49 H =>
  S88_1 call t3 t4 t6 t35 t39 t49 H) (S88_1 call t3 t4 t6 t35 t39 U H)
noncomputable def S88_3 (call : CallFn) (t3 t4 t6 t35 t39 t47 : AV) (H : AHeap) : R :=
  guardA t35 false (ldK .none H t47 fun t48 H =>
  S88_2 call t3 t4 t6 t35 t39 t48 H) (S88_2 call t3 t4 t6 t35 t39 U H)
noncomputable def S88_4 (call : CallFn) (t3 t4 t6 t35 t39 t46 : AV) (H : AHeap) : R :=
  guardA t35 false (pFa 5 t46 H fun t47 H =>
  S88_3 call t3 t4 t6 t35 t39 t47 H) (S88_3 call t3 t4 t6 t35 t39 U H)
noncomputable def S88_5 (call : CallFn) (t3 t4 t6 t35 t39 t41 t45 : AV) (H : AHeap) : R :=
  guardA t35 false (pIa 7 t41 t45 H fun t46 H =>
  S88_4 call t3 t4 t6 t35 t39 t46 H) (S88_4 call t3 t4 t6 t35 t39 U H)
noncomputable def S88_6 (call : CallFn) (t3 t4 t6 t35 t39 t41 t44 : AV) (H : AHeap) : R :=
  guardA t35 false (ldK .none H t44 fun t45 H =>
  S88_5 call t3 t4 t6 t35 t39 t41 t45 H) (S88_5 call t3 t4 t6 t35 t39 t41 U H)
noncomputable def S88_7 (call : CallFn) (t3 t4 t6 t35 t39 t41 t43 : AV) (H : AHeap) : R :=
  guardA t35 false (pFa 0 t43 H fun t44 H =>
  S88_6 call t3 t4 t6 t35 t39 t41 t44 H) (S88_6 call t3 t4 t6 t35 t39 t41 U H)
noncomputable def S88_8 (call : CallFn) (t3 t4 t6 t35 t39 t41 t42 : AV) (H : AHeap) : R :=
  guardA t35 false (pO (aNil t42) H fun t43 H =>
  S88_7 call t3 t4 t6 t35 t39 t41 t43 H) (S88_7 call t3 t4 t6 t35 t39 t41 U H)
noncomputable def S88_9 (call : CallFn) (t3 t4 t6 t35 t39 t41 : AV) (H : AHeap) : R :=
  guardA t35 false (S88_8 call t3 t4 t6 t35 t39 t41 t6 H) (S88_8 call t3 t4 t6 t35 t39 t41 U H)
noncomputable def S88_10 (call : CallFn) (t3 t4 t6 t35 t39 t40 : AV) (H : AHeap) : R :=
  guardA t35 false (ldK .none H t40 fun t41 H =>
  S88_9 call t3 t4 t6 t35 t39 t41 H) (S88_9 call t3 t4 t6 t35 t39 U H)
noncomputable def S88_11 (call : CallFn) (t3 t4 t6 t35 t39 : AV) (H : AHeap) : R :=
  guardA t35 false (pFa 4 t3 H fun t40 H =>
  S88_10 call t3 t4 t6 t35 t39 t40 H) (S88_10 call t3 t4 t6 t35 t39 U H)
noncomputable def S88_12 (call : CallFn) (t3 t4 t6 t35 t38 : AV) (H : AHeap) : R :=
  guardA t35 false (ldK .none H t38 fun t39 H =>
  S88_11 call t3 t4 t6 t35 t39 H) (S88_11 call t3 t4 t6 t35 U H)
noncomputable def S88_13 (call : CallFn) (t3 t4 t6 t35 t37 : AV) (H : AHeap) : R :=
  guardA t35 false (pFa 1 t37 H fun t38 H =>
  S88_12 call t3 t4 t6 t35 t38 H) (S88_12 call t3 t4 t6 t35 U H)
noncomputable def S88_14 (call : CallFn) (t3 t4 t6 t35 t36 : AV) (H : AHeap) : R :=
  guardA t35 false (pO (aNil t36) H fun t37 H =>
  S88_13 call t3 t4 t6 t35 t37 H) (S88_13 call t3 t4 t6 t35 U H)
noncomputable def S88_15 (call : CallFn) (t3 t4 t6 t28 t33 : AV) (H : AHeap) : R :=
  pPick t28 (.bool true) t33 H fun t34 H =>
  guardA t34 false (S88_14 call t3 t4 t6 t34 t6 H) (S88_14 call t3 t4 t6 t34 U H)
noncomputable def S88_16 (call : CallFn) (t3 t4 t6 t28 t32 : AV) (H : AHeap) : R :=
  guardA t28 false (pLss t32 (.int .i64 (.ofNat 0)) H fun t33 H =>
  S88_15 call t3 t4 t6 t28 t33 H) (S88_15 call t3 t4 t6 t28 U H)
noncomputable def S88_17 (call : CallFn) (t3 t4 t6 t28 t31 : AV) (H : AHeap) : R :=
  guardA t28 false (ldK .none H t31 fun t32 H =>
  S88_16 call t3 t4 t6 t28 t32 H) (S88_16 call t3 t4 t6 t28 U H)
noncomputable def S88_18 (call : CallFn) (t3 t4 t6 t28 t30 : AV) (H : AHeap) : R :=
  guardA t28 false (pFa 1 t30 H fun t31 H =>
  S88_17 call t3 t4 t6 t28 t31 H) (S88_17 call t3 t4 t6 t28 U H)
noncomputable def S88_19 (call : CallFn) (t3 t4 t6 t28 t29 : AV) (H : AHeap) : R :=
  guardA t28 false (pO (aNil t29) H fun t30 H =>
  S88_18 call t3 t4 t6 t28 t30 H) (S88_18 call t3 t4 t6 t28 U H)
noncomputable def S88_20 (call : CallFn) (t3 t4 t6 t18 t26 : AV) (H : AHeap) : R :=
  pPick t18 (.bool true) t26 H fun t27 H =>
  guardA t27 false (S88_19 call t3 t4 t6 t27 t6 H) (S88_19 call t3 t4 t6 t27 U H)
noncomputable def S88_21 (call : CallFn) (t3 t4 t6 t18 t22 t25 : AV) (H : AHeap) : R :=
  guardA t18 false (pGeq t22 t25 H fun t26 H =>
  S88_20 call t3 t4 t6 t18 t26 H) (S88_20 call t3 t4 t6 t18 U H)
noncomputable def S88_22 (call : CallFn) (t3 t4 t6 t18 t22 t24 : AV) (H : AHeap) : R :=
  guardA t18 false (pO (aLen .sl H t24) H fun t25 H =>
  S88_21 call t3 t4 t6 t18 t22 t25 H) (S88_21 call t3 t4 t6 t18 t22 U H)
noncomputable def S88_23 (call : CallFn) (t3 t4 t6 t18 t22 t23 : AV) (H : AHeap) : R :=
  guardA t18 false (ldK .none H t23 fun t24 H =>
  S88_22 call t3 t4 t6 t18 t22 t24 H) (S88_22 call t3 t4 t6 t18 t22 U H)
noncomputable def S88_24 (call : CallFn) (t3 t4 t6 t18 t22 : AV) (H : AHeap) : R :=
  guardA t18 false (pFa 4 t3 H fun t23 H =>
  S88_23 call t3 t4 t6 t18 t22 t23 H) (S88_23 call t3 t4 t6 t18 t22 U H)
noncomputable def S88_25 (call : CallFn) (t3 t4 t6 t18 t21 : AV) (H : AHeap) : R :=
  guardA t18 false (ldK .none H t21 fun t22 H =>
  S88_24 call t3 t4 t6 t18 t22 H) (S88_24 call t3 t4 t6 t18 U H)
noncomputable def S88_26 (call : CallFn) (t3 t4 t6 t18 t20 : AV) (H : AHeap) : R :=
  guardA t18 false (pFa 0 t20 H fun t21 H =>
  S88_25 call t3 t4 t6 t18 t21 H) (S88_25 call t3 t4 t6 t18 U H)
noncomputable def S88_27 (call : CallFn) (t3 t4 t6 t18 t19 : AV) (H : AHeap) : R :=
  guardA t18 false (pO (aNil t19) H fun t20 H =>
  S88_26 call t3 t4 t6 t18 t20 H) (S88_26 call t3 t4 t6 t18 U H)
noncomputable def S88_28 (call : CallFn) (t3 t4 t6 t11 t16 : AV) (H : AHeap) : R :=
  pPick t11 (.bool true) t16 H fun t17 H =>
  guardA t17 false (S88_27 call t3 t4 t6 t17 t6 H) (S88_27 call t3 t4 t6 t17 U H)
noncomputable def S88_29 (call : CallFn) (t3 t4 t6 t11 t15 : AV) (H : AHeap) : R :=
  guardA t11 false (pLss t15 (.int .i64 (.ofNat 0)) H fun t16 H =>
  S88_28 call t3 t4 t6 t11 t16 H) (S88_28 call t3 t4 t6 t11 U H)
noncomputable def S88_30 (call : CallFn) (t3 t4 t6 t11 t14 : AV) (H : AHeap) : R :=
  guardA t11 false (ldK .none H t14 fun t15 H =>
  S88_29 call t3 t4 t6 t11 t15 H) (S88_29 call t3 t4 t6 t11 U H)
noncomputable def S88_31 (call : CallFn) (t3 t4 t6 t11 t13 : AV) (H : AHeap) : R :=
  guardA t11 false (pFa 0 t13 H fun t14 H =>
  S88_30 call t3 t4 t6 t11 t14 H) (S88_30 call t3 t4 t6 t11 U H)
noncomputable def S88_32 (call : CallFn) (t3 t4 t6 t11 t12 : AV) (H : AHeap) : R :=
  guardA t11 false (pO (aNil t12) H fun t13 H =>
  S88_31 call t3 t4 t6 t11 t13 H) (S88_31 call t3 t4 t6 t11 U H)
noncomputable def S88_33 (call : CallFn) (t0 t1 : AV) (H : AHeap) : R :=
  pBox t1 H fun t3 H =>
  pNew [(.int .i64 (.ofNat 0)), (.int .i64 (.ofNat 0)), (.int .i64 (.ofNat 0)), (.int .i64 (.ofNat 0)), (.int .i64 (.ofNat 0))] H fun t4 H =>
  pC call 125 [t0] H fun t8 H =>
  pO (aEq false .ptr t8 .nilp) H fun t10 H =>
  guardA t10 false (S88_32 call t3 t4 t8 t10 t8 H) (S88_32 call t3 t4 t8 t10 U H)
noncomputable def S88 : Ff := ⟨fun call l H => argA2 (fun t0 t1 => S88_33 call t0 t1 H) l⟩
/- (*gantline/frame.Stack).Top -/
noncomputable def S89_0 (call : CallFn) (t0 : AV) (H : AHeap) : R :=
  pNew [(.int .i64 (.ofNat 0)), (.int .i64 (.ofNat 0)), .nilsl] H fun t2 H =>
  pC call 125 [t0] H fun t6 H =>
  pO (aEq false .ptr t6 .nilp) H fun t8 H =>
  onBool t8 (pO (someAgg (aFill [(.int .i64 (.ofNat 0)), (.int .i64 (.ofNat 0)), .nilsl] [])) H fun t9 H =>
  stK 3 H t2 t9 fun _ H =>
  ob (allM (fun o => o) [aLoad (.some 3) H t2, some (.bool false)]) fun vs => some (resV vs, H)) (pO (aNil t6) H fun t11 H =>
  ldK (.some 3) H t11 fun t12 H =>
  pC call 126 [t12] H fun t13 H =>
  stK 3 H t2 t13 fun _ H =>
  ob (allM (fun o => o) [aLoad (.some 3) H t2, some (.bool true)]) fun vs => some (resV vs, H))
noncomputable def S89 : Ff := ⟨fun call l H => argA1 (fun t0 => S89_0 call t0 H) l⟩
/- gantline/vm.isAct -/
noncomputable def S90_0 (_ : CallFn) (t15 t21 : AV) (H : AHeap) : R :=
  pPick t15 (.bool true) t21 H fun t22 H =>
  some (t22, H)
noncomputable def S90_1 (call : CallFn) (t15 t18 t20 : AV) (H : AHeap) : R :=
  guardA t15 false (pPick t18 t20 (.bool false) H fun t21 H =>
  S90_0 call t15 t21 H) (S90_0 call t15 U H)
noncomputable def S90_2 (call : CallFn) (t1 t15 t18 : AV) (H : AHeap) : R :=
  guardA t18 true (pEql t1 (.int .i64 (.ofNat 1)) H fun t20 H =>
  S90_1 call t15 t18 t20 H) (S90_1 call t15 t18 U H)
noncomputable def S90_3 (call : CallFn) (t0 t1 t11 t13 : AV) (H : AHeap) : R :=
  pPick t11 t13 (.bool false) H fun t14 H =>
  guardA t14 false (pEql t0 (.int .i64 (.ofNat 22)) H fun t17 H =>
  S90_2 call t1 t14 t17 H) (S90_2 call t1 t14 U H)
noncomputable def S90_4 (call : CallFn) (t0 t1 t7 t9 : AV) (H : AHeap) : R :=
  pPick t7 t9 (.bool false) H fun t10 H =>
  guardA t10 true (pNeq t0 (.int .i64 (.ofNat 36)) H fun t13 H =>
  S90_3 call t0 t1 t10 t13 H) (S90_3 call t0 t1 t10 U H)
noncomputable def S90_5 (call : CallFn) (t0 t1 : AV) (H : AHeap) : R :=
  pGeq t0 (.int .i64 (.ofNat 23)) H fun t6 H =>
  guardA t6 true (pLeq t0 (.int .i64 (.ofNat 42)) H fun t9 H =>
  S90_4 call t0 t1 t6 t9 H) (S90_4 call t0 t1 t6 U H)
noncomputable def S90 : Ff := ⟨fun call l H => argA2 (fun t0 t1 => S90_5 call t0 t1 H) l⟩
/- (*gantline/frame.Stack).Depth -/
noncomputable def S91_0 (_ : CallFn) (t0 : AV) (H : AHeap) : R :=
  pO (aNil t0) H fun t4 H =>
  pFa 0 t4 H fun t5 H =>
  ldK .none H t5 fun t6 H =>
  pO (aLen .sl H t6) H fun t7 H =>
  some (t7, H)
noncomputable def S91 : Ff := ⟨fun call l H => argA1 (fun t0 => S91_0 call t0 H) l⟩
/- (*gantline/vm.doing).do -/
noncomputable def S92_0 (call : CallFn) (t0 : AV) (H : AHeap) : R :=
  pC call 132 [t0] H fun _ H =>
  some (.tup [], H)
noncomputable def S92_1 (call : CallFn) (t0 t2 t35 t37 : AV) (H : AHeap) : R :=
  pPick t35 (.bool true) t37 H fun t38 H =>
  onBool t38 (pC call 129 [t0] H fun _ H =>
  some (.tup [], H)) (pLeq t2 (.int .i64 (.ofNat 35)) H fun t43 H =>
  onBool t43 (pC call 130 [t0] H fun _ H =>
  some (.tup [], H)) (pEql t2 (.int .i64 (.ofNat 42)) H fun t48 H =>
  onBool t48 (pO (aNil t0) H fun t50 H =>
  pFa 0 t50 H fun t51 H =>
  ldK .none H t51 fun t52 H =>
  pO (aNil t52) H fun t53 H =>
  pFa 9 t53 H fun t54 H =>
  ldK .none H t54 fun t55 H =>
  pO (aLen .sl H t55) H fun t56 H =>
  pLss t56 (.int .i64 (.ofNat 65536)) H fun t57 H =>
  onBool t57 (pO (aNil t0) H fun t59 H =>
  pFa 0 t59 H fun t60 H =>
  ldK .none H t60 fun t61 H =>
  pO (aNil t0) H fun t63 H =>
  pFa 0 t63 H fun t64 H =>
  ldK .none H t64 fun t65 H =>
  pO (aNil t65) H fun t66 H =>
  pFa 9 t66 H fun t67 H =>
  ldK .none H t67 fun t68 H =>
  pO (aNil t0) H fun t70 H =>
  pFa 2 t70 H fun t71 H =>
  ldK .none H t71 fun t72 H =>
  pO (aNil t0) H fun t74 H =>
  pFa 3 t74 H fun t75 H =>
  pFa 1 t75 H fun t76 H =>
  ldK .none H t76 fun t77 H =>
  pC call 131 [t72, t77] H fun t78 H =>
  andR (andB (ckV (aLoad .none H t60) t61) (andB (ckV (aLoad .none H t64) t65) (andB (ckV (aLoad .none H t67) t68) true))) (
  pN (aBsl 1 1 [(.int .i64 (.ofNat 0))] [(0, 1, t78)]) H fun t79 H =>
  pW (aApp 1 8 H t68 t79) fun t80 H =>
  andR (andB (ckV (aLoad .none H t60) t61) true) (
  pO (aNil t61) H fun t81 H =>
  pFa 9 t81 H fun t82 H =>
  stK 1 H t82 t80 fun _ H =>
  S92_0 call t0 H))) (S92_0 call t0 H)) (pEql t2 (.int .i64 (.ofNat 44)) H fun t87 H =>
  onBool t87 (pO (aNil t0) H fun t89 H =>
  pFa 0 t89 H fun t90 H =>
  ldK .none H t90 fun t91 H =>
  pO (aNil t0) H fun t93 H =>
  pFa 3 t93 H fun t94 H =>
  pFa 1 t94 H fun t95 H =>
  ldK .none H t95 fun t96 H =>
  pC call 133 [t91, t96] H fun _ H =>
  some (.tup [], H)) (pC call 134 [t0] H fun _ H =>
  some (.tup [], H)))))
noncomputable def S92_2 (call : CallFn) (t0 t2 t31 t33 : AV) (H : AHeap) : R :=
  pPick t31 (.bool true) t33 H fun t34 H =>
  guardA t34 false (pEql t2 (.int .i64 (.ofNat 37)) H fun t37 H =>
  S92_1 call t0 t2 t34 t37 H) (S92_1 call t0 t2 t34 U H)
noncomputable def S92_3 (call : CallFn) (t0 t2 t27 t29 : AV) (H : AHeap) : R :=
  pPick t27 (.bool true) t29 H fun t30 H =>
  guardA t30 false (pEql t2 (.int .i64 (.ofNat 36)) H fun t33 H =>
  S92_2 call t0 t2 t30 t33 H) (S92_2 call t0 t2 t30 U H)
noncomputable def S92_4 (call : CallFn) (t0 t2 t13 t15 : AV) (H : AHeap) : R :=
  pPick t13 (.bool true) t15 H fun t16 H =>
  onBool t16 (pC call 127 [t0] H fun _ H =>
  some (.tup [], H)) (pLeq t2 (.int .i64 (.ofNat 24)) H fun t21 H =>
  onBool t21 (pC call 128 [t0] H fun _ H =>
  some (.tup [], H)) (pEql t2 (.int .i64 (.ofNat 25)) H fun t26 H =>
  guardA t26 false (pEql t2 (.int .i64 (.ofNat 26)) H fun t29 H =>
  S92_3 call t0 t2 t26 t29 H) (S92_3 call t0 t2 t26 U H)))
noncomputable def S92_5 (call : CallFn) (t0 : AV) (H : AHeap) : R :=
  pO (aNil t0) H fun t4 H =>
  pFa 3 t4 H fun t5 H =>
  pFa 0 t5 H fun t6 H =>
  ldK .none H t6 fun t7 H =>
  pLeq t7 (.int .i64 (.ofNat 19)) H fun t12 H =>
  guardA t12 false (pEql t7 (.int .i64 (.ofNat 43)) H fun t15 H =>
  S92_4 call t0 t7 t12 t15 H) (S92_4 call t0 t7 t12 U H)
noncomputable def S92 : Ff := ⟨fun call l H => argA1 (fun t0 => S92_5 call t0 H) l⟩
/- slices.Clone[[]gantline/vm.Act,gantline/vm.Act] -/
noncomputable def S93_0 (_ : CallFn) (t0 : AV) (H : AHeap) : R :=
  pO (aEq false .sl t0 .nilsl) H fun t4 H =>
  onBool t4 (some (.nilsl, H)) (pN (aBsl 7 0 [(.int .i64 (.ofNat 0)), (.int .i64 (.ofNat 0)), (.int .i64 (.ofNat 0)), (.int .i64 (.ofNat 0)), (.int .i64 (.ofNat 0)), (.int .i64 (.ofNat 0)), (.int .i64 (.ofNat 0))] []) H fun t5 H =>
  pW (aApp 7 56 H t5 t0) fun t7 H =>
  some (t7, H))
noncomputable def S93 : Ff := ⟨fun call l H => argA1 (fun t0 => S93_0 call t0 H) l⟩
/- (*gantline/code.reader).many -/
noncomputable def S94_0 (_ : CallFn) (t0 t3 : AV) (H : AHeap) : R :=
  pO (aNil t0) H fun t18 H =>
  pFa 1 t18 H fun t19 H =>
  ldK .none H t19 fun t20 H =>
  onBool t20 (some ((.int .i64 (.ofNat 0)), H)) (pConv .i64 t3 H fun t22 H =>
  some (t22, H))
noncomputable def S94_1 (call : CallFn) (t0 : AV) (H : AHeap) : R :=
  pC call 54 [t0] H fun t5 H =>
  pO (aNil t0) H fun t8 H =>
  pFa 0 t8 H fun t9 H =>
  ldK .none H t9 fun t10 H =>
  pO (aLen .sl H t10) H fun t11 H =>
  pConv .u64 t11 H fun t12 H =>
  pGtr t5 t12 H fun t13 H =>
  onBool t13 (pO (aNil t0) H fun t15 H =>
  pFa 1 t15 H fun t16 H =>
  stK 1 H t16 (.bool true) fun _ H =>
  S94_0 call t0 t5 H) (S94_0 call t0 t5 H)
noncomputable def S94 : Ff := ⟨fun call l H => argA1 (fun t0 => S94_1 call t0 H) l⟩
/- gantline/bits.Take -/
noncomputable def S95_1 (_ : CallFn) (t4 t5 t33 t35 : AV) (H : AHeap) : R :=
  pPick t33 t35 (.bool false) H fun t36 H =>
  onBool t36 (some (.tup [(.int .u64 (.ofNat 0)), (.int .i64 (.ofNat 0))], H)) (pAdd t5 (.int .i64 (.ofNat 1)) H fun t39 H =>
  some (.tup [t4, t39], H))
noncomputable def S95_2 (call : CallFn) (q0 : AV → AV → AV → AV → AHeap → R) (t4 t5 t6 t7 t8 t9 t16 t18 : AV) (H : AHeap) : R :=
  pPick t16 t18 (.bool false) H fun t19 H =>
  onBool t19 (some (.tup [(.int .u64 (.ofNat 0)), (.int .i64 (.ofNat 0))], H)) (pAnd t6 (.int .u8 (.ofNat 127)) H fun t22 H =>
  pConv .u64 t22 H fun t23 H =>
  pConv .u64 t5 H fun t25 H =>
  pMul (.int .u64 (.ofNat 7)) t25 H fun t26 H =>
  pO (aBin .shl t23 t26) H fun t27 H =>
  pOr t4 t27 H fun t28 H =>
  pLss t6 (.int .u8 (.ofNat 128)) H fun t30 H =>
  onBool t30 (pEql t6 (.int .u8 (.ofNat 0)) H fun t32 H =>
  guardA t32 true (pGtr t5 (.int .i64 (.ofNat 0)) H fun t35 H =>
  S95_1 call t28 t5 t32 t35 H) (S95_1 call t28 t5 t32 U H)) (pAdd t9 (.int .i64 (.ofNat 1)) H fun t40 H =>
  q0 t28 t7 t8 t40 H))
noncomputable def S95_0 (call : CallFn) (n : Nat) : AV → AV → AV → AV → AHeap → R :=
  Nat.rec (motive := fun _ => AV → AV → AV → AV → AHeap → R) (fun _ _ _ _ _ => none) (fun _ q0 t4 t7 t8 t9 H => pLss t9 t8 H fun t10 H =>
  onBool t10 (pIa 1 t7 t9 H fun t12 H =>
  ldK .none H t12 fun t13 H =>
  pEql t9 (.int .i64 (.ofNat 9)) H fun t15 H =>
  guardA t15 true (pGtr t13 (.int .u8 (.ofNat 1)) H fun t18 H =>
  S95_2 call q0 t4 t9 t13 t7 t8 t9 t15 t18 H) (S95_2 call q0 t4 t9 t13 t7 t8 t9 t15 U H)) (some (.tup [(.int .u64 (.ofNat 0)), (.int .i64 (.ofNat 0))], H))) n
noncomputable def S95_3 (call : CallFn) (t0 : AV) (H : AHeap) : R :=
  pO (aLen .sl H t0) H fun t8 H =>
  S95_0 call 1000000 (.int .u64 (.ofNat 0)) t0 t8 (.int .i64 (.ofNat 0)) H
noncomputable def S95 : Ff := ⟨fun call l H => argA1 (fun t0 => S95_3 call t0 H) l⟩
/- gantline/code.list[gantline/code.Instr] -/
noncomputable def S96_0 (call : CallFn) (n : Nat) : AV → AV → AV → AV → AV → AHeap → R :=
  Nat.rec (motive := fun _ => AV → AV → AV → AV → AV → AHeap → R) (fun _ _ _ _ _ _ => none) (fun _ q0 t0 t1 t5 t7 t8 H => pLss t8 t7 H fun t9 H =>
  onBool t9 (pO (aNil t0) H fun t11 H =>
  pFa 1 t11 H fun t12 H =>
  ldK .none H t12 fun t13 H =>
  onBool t13 (some (.nilsl, H)) (pV call t1 [] H fun t16 H =>
  pN (aBsl 5 1 [(.int .i64 (.ofNat 0)), (.int .i64 (.ofNat 0)), (.int .i64 (.ofNat 0)), (.int .i64 (.ofNat 0)), (.int .i64 (.ofNat 0))] [(0, 5, t16)]) H fun t17 H =>
  pW (aApp 5 40 H t5 t17) fun t18 H =>
  pAdd t8 (.int .i64 (.ofNat 1)) H fun t19 H =>
  q0 t0 t1 t18 t7 t19 H)) (some (t5, H))) n
noncomputable def S96_1 (call : CallFn) (t0 t1 : AV) (H : AHeap) : R :=
  pC call 94 [t0] H fun t7 H =>
  S96_0 call 1000000 t0 t1 .nilsl t7 (.int .i64 (.ofNat 0)) H
noncomputable def S96 : Ff := ⟨fun call l H => argA2 (fun t0 t1 => S96_1 call t0 t1 H) l⟩
/- (*gantline/code.reader).fn$1 -/
noncomputable def S97_0 (call : CallFn) (t0 : AV) (H : AHeap) : R :=
  pNew [(.int .i64 (.ofNat 0)), (.int .i64 (.ofNat 0)), (.int .i64 (.ofNat 0)), (.int .i64 (.ofNat 0)), (.int .i64 (.ofNat 0))] H fun t1 H =>
  ldK .none H t0 fun t2 H =>
  ldK .none H t0 fun t4 H =>
  ldK .none H t0 fun t6 H =>
  ldK .none H t0 fun t8 H =>
  ldK .none H t0 fun t10 H =>
  pC call 53 [t2] H fun t3 H =>
  andR (andB (ckV (aLoad .none H t0) t4) (andB (ckV (aLoad .none H t0) t6) (andB (ckV (aLoad .none H t0) t8) (andB (ckV (aLoad .none H t0) t10) true)))) (
  pC call 53 [t4] H fun t5 H =>
  andR (andB (ckV (aLoad .none H t0) t6) (andB (ckV (aLoad .none H t0) t8) (andB (ckV (aLoad .none H t0) t10) true))) (
  pC call 53 [t6] H fun t7 H =>
  andR (andB (ckV (aLoad .none H t0) t8) (andB (ckV (aLoad .none H t0) t10) true)) (
  pC call 53 [t8] H fun t9 H =>
  andR (andB (ckV (aLoad .none H t0) t10) true) (
  pC call 53 [t10] H fun t11 H =>
  pO (someAgg (aFill [(.int .i64 (.ofNat 0)), (.int .i64 (.ofNat 0)), (.int .i64 (.ofNat 0)), (.int .i64 (.ofNat 0)), (.int .i64 (.ofNat 0))] [(0, 1, t3), (1, 1, t5), (2, 1, t7), (3, 1, t9), (4, 1, t11)])) H fun t12 H =>
  stK 5 H t1 t12 fun _ H =>
  ob (allM (fun o => o) [aLoad (.some 5) H t1]) fun vs => some (resV vs, H)))))
noncomputable def S97 : Ff := ⟨fun call l H => argA1 (fun t0 => S97_0 call t0 H) l⟩
/- gantline/code.list[uint64] -/
noncomputable def S98_0 (call : CallFn) (n : Nat) : AV → AV → AV → AV → AV → AHeap → R :=
  Nat.rec (motive := fun _ => AV → AV → AV → AV → AV → AHeap → R) (fun _ _ _ _ _ _ => none) (fun _ q0 t0 t1 t5 t7 t8 H => pLss t8 t7 H fun t9 H =>
  onBool t9 (pO (aNil t0) H fun t11 H =>
  pFa 1 t11 H fun t12 H =>
  ldK .none H t12 fun t13 H =>
  onBool t13 (some (.nilsl, H)) (pV call t1 [] H fun t16 H =>
  pN (aBsl 1 1 [(.int .u64 (.ofNat 0))] [(0, 1, t16)]) H fun t17 H =>
  pW (aApp 1 8 H t5 t17) fun t18 H =>
  pAdd t8 (.int .i64 (.ofNat 1)) H fun t19 H =>
  q0 t0 t1 t18 t7 t19 H)) (some (t5, H))) n
noncomputable def S98_1 (call : CallFn) (t0 t1 : AV) (H : AHeap) : R :=
  pC call 94 [t0] H fun t7 H =>
  S98_0 call 1000000 t0 t1 .nilsl t7 (.int .i64 (.ofNat 0)) H
noncomputable def S98 : Ff := ⟨fun call l H => argA2 (fun t0 t1 => S98_1 call t0 t1 H) l⟩
/- slices.DeleteFunc[[]int,int] -/
noncomputable def S99_0 (_ : CallFn) (t0 t5 : AV) (H : AHeap) : R :=
  pO (aSlice 1 H t0 (.some t5) .none .none) H fun t38 H =>
  pW (unitW (aClearS [(.int .i64 (.ofNat 0))] H t38)) fun _ H =>
  pO (aSlice 1 H t0 .none (.some t5) .none) H fun t41 H =>
  some (t41, H)
noncomputable def S99_2 (_ : CallFn) (q0 : AV → AV → AV → AV → AHeap → R) (t0 t1 t5 t6 : AV) (H : AHeap) : R :=
  pAdd t6 (.int .i64 (.ofNat 1)) H fun t21 H =>
  q0 t0 t1 t5 t21 H
noncomputable def S99_1 (call : CallFn) (n : Nat) : AV → AV → AV → AV → AHeap → R :=
  Nat.rec (motive := fun _ => AV → AV → AV → AV → AHeap → R) (fun _ _ _ _ _ => none) (fun _ q0 t0 t1 t5 t6 H => pO (aLen .sl H t0) H fun t18 H =>
  pLss t6 t18 H fun t19 H =>
  onBool t19 (pIa 1 t0 t6 H fun t24 H =>
  ldK .none H t24 fun t25 H =>
  pV call t1 [t25] H fun t28 H =>
  pO (aUn .not t28) H fun t29 H =>
  onBool t29 (pIa 1 t0 t5 H fun t33 H =>
  stK 1 H t33 t25 fun _ H =>
  pAdd t5 (.int .i64 (.ofNat 1)) H fun t35 H =>
  S99_2 call q0 t0 t1 t35 t6 H) (S99_2 call q0 t0 t1 t5 t6 H)) (S99_0 call t0 t5 H)) n
noncomputable def S99_3 (call : CallFn) (t0 t1 : AV) (H : AHeap) : R :=
  pC call 135 [t0, t1] H fun t10 H =>
  pEql t10 (.int .i64 (.negSucc 0)) H fun t12 H =>
  onBool t12 (some (t0, H)) (pAdd t10 (.int .i64 (.ofNat 1)) H fun t15 H =>
  S99_1 call 1000000 t0 t1 t10 t15 H)
noncomputable def S99 : Ff := ⟨fun call l H => argA2 (fun t0 t1 => S99_3 call t0 t1 H) l⟩
/- gantline/live.Follows$1 -/
noncomputable def S100_0 (_ : CallFn) (t6 t11 : AV) (H : AHeap) : R :=
  pPick t6 (.bool true) t11 H fun t12 H =>
  some (t12, H)
noncomputable def S100_1 (call : CallFn) (t0 t1 : AV) (H : AHeap) : R :=
  pLss t0 (.int .i64 (.ofNat 0)) H fun t5 H =>
  guardA t5 false (pFa 5 t1 H fun t8 H =>
  ldK .none H t8 fun t9 H =>
  pO (aLen .sl H t9) H fun t10 H =>
  pGeq t0 t10 H fun t11 H =>
  S100_0 call t5 t11 H) (S100_0 call t5 U H)
noncomputable def S100 : Ff := ⟨fun call l H => argA2 (fun t0 t1 => S100_1 call t0 t1 H) l⟩
/- slices.Sort[[]int,int] -/
noncomputable def S101_0 (call : CallFn) (t0 : AV) (H : AHeap) : R :=
  pO (aLen .sl H t0) H fun t4 H =>
  pConv .u64 t4 H fun t8 H =>
  pC call 137 [t8] H fun t9 H =>
  pC call 136 [t0, (.int .i64 (.ofNat 0)), t4, t9] H fun _ H =>
  some (.tup [], H)
noncomputable def S101 : Ff := ⟨fun call l H => argA1 (fun t0 => S101_0 call t0 H) l⟩
/- slices.Compact[[]int,int] -/
noncomputable def S102_1 (_ : CallFn) (q0 : AV → AV → AHeap → R) (t0 t3 : AV) (H : AHeap) : R :=
  pAdd t3 (.int .i64 (.ofNat 1)) H fun t15 H =>
  q0 t0 t15 H
noncomputable def S102_2 (_ : CallFn) (t0 t3 : AV) (H : AHeap) : R :=
  pO (aSlice 1 H t0 (.some t3) .none .none) H fun t56 H =>
  pW (unitW (aClearS [(.int .i64 (.ofNat 0))] H t56)) fun _ H =>
  pO (aSlice 1 H t0 .none (.some t3) .none) H fun t59 H =>
  some (t59, H)
noncomputable def S102_4 (_ : CallFn) (q1 : AV → AV → AV → AV → AHeap → R) (t0 t3 t4 t5 : AV) (H : AHeap) : R :=
  pAdd t5 (.int .i64 (.ofNat 1)) H fun t34 H =>
  q1 t0 t3 t4 t34 H
noncomputable def S102_3 (call : CallFn) (n : Nat) : AV → AV → AV → AV → AHeap → R :=
  Nat.rec (motive := fun _ => AV → AV → AV → AV → AHeap → R) (fun _ _ _ _ _ => none) (fun _ q1 t0 t3 t4 t5 H => pO (aLen .sl H t4) H fun t31 H =>
  pLss t5 t31 H fun t32 H =>
  onBool t32 (pIa 1 t4 t5 H fun t37 H =>
  ldK .none H t37 fun t38 H =>
  pSub t5 (.int .i64 (.ofNat 1)) H fun t41 H =>
  pIa 1 t4 t41 H fun t42 H =>
  ldK .none H t42 fun t43 H =>
  pNeq t38 t43 H fun t44 H =>
  onBool t44 (pIa 1 t4 t5 H fun t49 H =>
  ldK .none H t49 fun t50 H =>
  pIa 1 t0 t3 H fun t51 H =>
  stK 1 H t51 t50 fun _ H =>
  pAdd t3 (.int .i64 (.ofNat 1)) H fun t53 H =>
  S102_4 call q1 t0 t53 t4 t5 H) (S102_4 call q1 t0 t3 t4 t5 H)) (S102_2 call t0 t3 H)) n
noncomputable def S102_0 (call : CallFn) (n : Nat) : AV → AV → AHeap → R :=
  Nat.rec (motive := fun _ => AV → AV → AHeap → R) (fun _ _ _ => none) (fun _ q0 t0 t3 H => pO (aLen .sl H t0) H fun t12 H =>
  pLss t3 t12 H fun t13 H =>
  onBool t13 (pIa 1 t0 t3 H fun t18 H =>
  ldK .none H t18 fun t19 H =>
  pSub t3 (.int .i64 (.ofNat 1)) H fun t22 H =>
  pIa 1 t0 t22 H fun t23 H =>
  ldK .none H t23 fun t24 H =>
  pEql t19 t24 H fun t25 H =>
  onBool t25 (pO (aSlice 1 H t0 (.some t3) .none .none) H fun t28 H =>
  S102_3 call 1000000 t0 t3 t28 (.int .i64 (.ofNat 1)) H) (S102_1 call q0 t0 t3 H)) (some (t0, H))) n
noncomputable def S102_5 (call : CallFn) (t0 : AV) (H : AHeap) : R :=
  pO (aLen .sl H t0) H fun t7 H =>
  pLss t7 (.int .i64 (.ofNat 2)) H fun t8 H =>
  onBool t8 (some (t0, H)) (S102_0 call 1000000 t0 (.int .i64 (.ofNat 1)) H)
noncomputable def S102 : Ff := ⟨fun call l H => argA1 (fun t0 => S102_5 call t0 H) l⟩
/- gantline/live.run -/
noncomputable def S103_0 (_ : CallFn) (n : Nat) : AV → AV → AV → AV → AHeap → R :=
  Nat.rec (motive := fun _ => AV → AV → AV → AV → AHeap → R) (fun _ _ _ _ _ => none) (fun _ q0 t0 t5 t9 t10 H => pLss t10 t9 H fun t11 H =>
  onBool t11 (pAdd t0 t10 H fun t16 H =>
  pN (aBsl 1 1 [(.int .i64 (.ofNat 0))] [(0, 1, t16)]) H fun t17 H =>
  pW (aApp 1 8 H t5 t17) fun t18 H =>
  pAdd t10 (.int .i64 (.ofNat 1)) H fun t19 H =>
  q0 t0 t18 t9 t19 H) (some (t5, H))) n
noncomputable def S103_1 (call : CallFn) (t0 t1 : AV) (H : AHeap) : R :=
  pLeq t1 (.int .i64 (.ofNat 64)) H fun t8 H =>
  onBool t8 (S103_0 call 1000000 t0 .nilsl t1 (.int .i64 (.ofNat 0)) H) (some (.nilsl, H))
noncomputable def S103 : Ff := ⟨fun call l H => argA2 (fun t0 t1 => S103_1 call t0 t1 H) l⟩
/- gantline/live.fn -/
noncomputable def S104_0 (_ : CallFn) (t1 t2 t4 t7 t12 : AV) (H : AHeap) : R :=
  pPick t7 (.bool true) t12 H fun t13 H =>
  onBool t13 (pO (someAgg (aFill [(.int .i64 (.ofNat 0)), (.int .i64 (.ofNat 0)), (.int .i64 (.ofNat 0)), (.int .i64 (.ofNat 0)), .nilsl, .nilsl, .nilsl] [])) H fun t14 H =>
  stK 7 H t4 t14 fun _ H =>
  ob (allM (fun o => o) [aLoad (.some 7) H t4]) fun vs => some (resV vs, H)) (pFa 4 t2 H fun t15 H =>
  ldK .none H t15 fun t16 H =>
  pIa 7 t16 t1 H fun t18 H =>
  ldK (.some 7) H t18 fun t19 H =>
  stK 7 H t4 t19 fun _ H =>
  ob (allM (fun o => o) [aLoad (.some 7) H t4]) fun vs => some (resV vs, H))
noncomputable def S104_1 (call : CallFn) (t0 t1 : AV) (H : AHeap) : R :=
  pBox t0 H fun t2 H =>
  pNew [(.int .i64 (.ofNat 0)), (.int .i64 (.ofNat 0)), (.int .i64 (.ofNat 0)), (.int .i64 (.ofNat 0)), .nilsl, .nilsl, .nilsl] H fun t4 H =>
  pLss t1 (.int .i64 (.ofNat 0)) H fun t6 H =>
  guardA t6 false (pFa 4 t2 H fun t9 H =>
  ldK .none H t9 fun t10 H =>
  pO (aLen .sl H t10) H fun t11 H =>
  pGeq t1 t11 H fun t12 H =>
  S104_0 call t1 t2 t4 t6 t12 H) (S104_0 call t1 t2 t4 t6 U H)
noncomputable def S104 : Ff := ⟨fun call l H => argA2 (fun t0 t1 => S104_1 call t0 t1 H) l⟩
/- gantline/live.given -/
noncomputable def S105_0 (call : CallFn) (t0 : AV) (H : AHeap) : R :=
  pC call 99 [t0, (.fn 138 [] [])] H fun t4 H =>
  some (t4, H)
noncomputable def S105 : Ff := ⟨fun call l H => argA1 (fun t0 => S105_0 call t0 H) l⟩
/- gantline/live.readsOf -/
noncomputable def S106_1 (_ : CallFn) (q0 : AV → AV → AV → AV → AHeap → R) (t3 t6 t7 t8 : AV) (H : AHeap) : R :=
  pAdd t8 (.int .i64 (.ofNat 1)) H fun t28 H =>
  q0 t3 t6 t7 t28 H
noncomputable def S106_2 (call : CallFn) (q0 : AV → AV → AV → AV → AHeap → R) (t3 t5 t6 t7 t8 : AV) (H : AHeap) : R :=
  pFa 0 t5 H fun t20 H =>
  ldK .none H t20 fun t21 H =>
  pEql t21 (.int .i64 (.ofNat 1)) H fun t22 H =>
  onBool t22 (pFa 2 t5 H fun t24 H =>
  ldK .none H t24 fun t25 H =>
  pN (aBsl 1 1 [(.int .i64 (.ofNat 0))] [(0, 1, t25)]) H fun t26 H =>
  pW (aApp 1 8 H t3 t26) fun t27 H =>
  S106_1 call q0 t27 t6 t7 t8 H) (S106_1 call q0 t3 t6 t7 t8 H)
noncomputable def S106_0 (call : CallFn) (n : Nat) : AV → AV → AV → AV → AHeap → R :=
  Nat.rec (motive := fun _ => AV → AV → AV → AV → AHeap → R) (fun _ _ _ _ _ => none) (fun _ q0 t3 t6 t7 t8 H => pLss t8 t7 H fun t9 H =>
  onBool t9 (pIa 4 t6 t8 H fun t10 H =>
  ldK (.some 4) H t10 fun t11 H =>
  pNew [(.int .i64 (.ofNat 0)), (.int .i64 (.ofNat 0)), (.int .i64 (.ofNat 0)), (.int .i64 (.ofNat 0))] H fun t5 H =>
  stK 4 H t5 t11 fun _ H =>
  pFa 0 t5 H fun t12 H =>
  ldK .none H t12 fun t13 H =>
  pNeq t13 (.int .i64 (.ofNat 2)) H fun t14 H =>
  onBool t14 (pFa 1 t5 H fun t16 H =>
  ldK .none H t16 fun t17 H =>
  pN (aBsl 1 1 [(.int .i64 (.ofNat 0))] [(0, 1, t17)]) H fun t18 H =>
  pW (aApp 1 8 H t3 t18) fun t19 H =>
  S106_2 call q0 t19 t5 t6 t7 t8 H) (S106_2 call q0 t3 t5 t6 t7 t8 H)) (some (t3, H))) n
noncomputable def S106_3 (call : CallFn) (t0 : AV) (H : AHeap) : R :=
  pO (aLen .sl H t0) H fun t7 H =>
  S106_0 call 1000000 .nilsl t0 t7 (.int .i64 (.ofNat 0)) H
noncomputable def S106 : Ff := ⟨fun call l H => argA1 (fun t0 => S106_3 call t0 H) l⟩
/- gantline/verify.Without -/
noncomputable def S107_0 (_ : CallFn) (t4 : AV) (H : AHeap) : R :=
  pO (someAgg (aFill [(.int .i64 (.ofNat 0)), (.int .i64 (.ofNat 0)), (.int .i64 (.ofNat 0))] [])) H fun t92 H =>
  stK 3 H t4 t92 fun _ H =>
  ob (allM (fun o => o) [aLoad (.some 3) H t4, some (.bool true)]) fun vs => some (resV vs, H)
noncomputable def S107_2 (_ : CallFn) (q0 : AV → AV → AV → AV → AV → AV → AV → AHeap → R) (t1 t2 t4 t9 t41 t42 t43 : AV) (H : AHeap) : R :=
  pAdd t43 (.int .i64 (.ofNat 1)) H fun t91 H =>
  q0 t1 t2 t4 t9 t41 t42 t91 H
noncomputable def S107_4 (_ : CallFn) (q1 : AV → AV → AV → AV → AV → AV → AV → AV → AV → AV → AV → AV → AHeap → R) (t1 t2 t4 t9 t10 t12 t41 t42 t43 t57 t58 t59 : AV) (H : AHeap) : R :=
  pAdd t59 (.int .i64 (.ofNat 1)) H fun t90 H =>
  q1 t1 t2 t4 t9 t10 t12 t41 t42 t43 t57 t58 t90 H
noncomputable def S107_6 (_ : CallFn) (q2 : AV → AV → AV → AV → AV → AV → AV → AV → AV → AV → AV → AV → AV → AV → AHeap → R) (t1 t2 t4 t9 t10 t12 t13 t15 t41 t42 t43 t57 t58 t59 t80 t84 : AV) (H : AHeap) : R :=
  pPick t80 t84 (.bool false) H fun t85 H =>
  onBool t85 (pO (someAgg (aFill [(.int .i64 (.ofNat 0)), (.int .i64 (.ofNat 0)), (.int .i64 (.ofNat 0))] [(0, 1, t10), (1, 1, t13), (2, 1, t15)])) H fun t89 H =>
  stK 3 H t4 t89 fun _ H =>
  ob (allM (fun o => o) [aLoad (.some 3) H t4, some (.bool false)]) fun vs => some (resV vs, H)) (pAdd t15 (.int .i64 (.ofNat 1)) H fun t75 H =>
  q2 t1 t2 t4 t9 t10 t12 t13 t75 t41 t42 t43 t57 t58 t59 H)
noncomputable def S107_5 (call : CallFn) (q1 : AV → AV → AV → AV → AV → AV → AV → AV → AV → AV → AV → AV → AHeap → R) (n : Nat) : AV → AV → AV → AV → AV → AV → AV → AV → AV → AV → AV → AV → AV → AV → AHeap → R :=
  Nat.rec (motive := fun _ => AV → AV → AV → AV → AV → AV → AV → AV → AV → AV → AV → AV → AV → AV → AHeap → R) (fun _ _ _ _ _ _ _ _ _ _ _ _ _ _ _ => none) (fun _ q2 t1 t2 t4 t9 t10 t12 t13 t15 t41 t42 t43 t57 t58 t59 H => pLeq t15 (.int .i64 (.ofNat 10)) H fun t73 H =>
  onBool t73 (pC call 141 [t1, t15] H fun t78 H =>
  pO (aUn .not t78) H fun t79 H =>
  guardA t79 true (pC call 142 [t12, t15] H fun t83 H =>
  pO (aUn .not t83) H fun t84 H =>
  S107_6 call q2 t1 t2 t4 t9 t10 t12 t13 t15 t41 t42 t43 t57 t58 t59 t79 t84 H) (S107_6 call q2 t1 t2 t4 t9 t10 t12 t13 t15 t41 t42 t43 t57 t58 t59 t79 U H)) (S107_4 call q1 t1 t2 t4 t9 t10 t12 t41 t42 t43 t57 t58 t59 H)) n
noncomputable def S107_3 (call : CallFn) (q0 : AV → AV → AV → AV → AV → AV → AV → AHeap → R) (n : Nat) : AV → AV → AV → AV → AV → AV → AV → AV → AV → AV → AV → AV → AHeap → R :=
  Nat.rec (motive := fun _ => AV → AV → AV → AV → AV → AV → AV → AV → AV → AV → AV → AV → AHeap → R) (fun _ _ _ _ _ _ _ _ _ _ _ _ _ => none) (fun _ q1 t1 t2 t4 t9 t10 t12 t41 t42 t43 t57 t58 t59 H => pLss t59 t58 H fun t60 H =>
  onBool t60 (pIa 5 t57 t59 H fun t62 H =>
  ldK (.some 5) H t62 fun t63 H =>
  pNew [(.int .i64 (.ofNat 0)), (.int .i64 (.ofNat 0)), (.int .i64 (.ofNat 0)), (.int .i64 (.ofNat 0)), (.int .i64 (.ofNat 0))] H fun t14 H =>
  stK 5 H t14 t63 fun _ H =>
  ldK (.some 5) H t14 fun t67 H =>
  pO (aNil t12) H fun t68 H =>
  pFa 16 t68 H fun t69 H =>
  stK 1 H t69 t59 fun _ H =>
  andR (andB (ckV (aLoad (.some 5) H t14) t67) true) (
  pO (aNil t12) H fun t70 H =>
  pFa 17 t70 H fun t71 H =>
  stK 5 H t71 t67 fun _ H =>
  S107_5 call q1 1000000 t1 t2 t4 t9 t10 t12 t59 (.int .i64 (.ofNat 4)) t41 t42 t43 t57 t58 t59 H)) (S107_2 call q0 t1 t2 t4 t9 t41 t42 t43 H)) n
noncomputable def S107_1 (call : CallFn) (n : Nat) : AV → AV → AV → AV → AV → AV → AV → AHeap → R :=
  Nat.rec (motive := fun _ => AV → AV → AV → AV → AV → AV → AV → AHeap → R) (fun _ _ _ _ _ _ _ _ => none) (fun _ q0 t1 t2 t4 t9 t41 t42 t43 H => pLss t43 t42 H fun t44 H =>
  onBool t44 (pIa 7 t41 t43 H fun t46 H =>
  ldK (.some 7) H t46 fun t47 H =>
  pNew [(.int .i64 (.ofNat 0)), (.int .i64 (.ofNat 0)), (.int .i64 (.ofNat 0)), (.int .i64 (.ofNat 0)), .nilsl, .nilsl, .nilsl] H fun t11 H =>
  stK 7 H t11 t47 fun _ H =>
  ldK (.some 6) H t2 fun t48 H =>
  ldK (.some 7) H t11 fun t49 H =>
  ldK (.some 6) H t2 fun t50 H =>
  ldK (.some 7) H t11 fun t51 H =>
  pC call 18 [t50, t51] H fun t52 H =>
  andR (andB (ckV (aLoad (.some 6) H t2) t48) (andB (ckV (aLoad (.some 7) H t11) t49) true)) (
  pO (someAgg (aFill [.nilsl, .nilsl, .nilsl, .nilsl, .nilsl, (.int .i64 (.ofNat 0)), (.int .i64 (.ofNat 0)), (.int .i64 (.ofNat 0)), (.int .i64 (.ofNat 0)), (.int .i64 (.ofNat 0)), .nilsl, .nilsl, .nilsl, .nilsl, .nilsl, .nilsl, (.int .i64 (.ofNat 0)), (.int .i64 (.ofNat 0)), (.int .i64 (.ofNat 0)), (.int .i64 (.ofNat 0)), (.int .i64 (.ofNat 0)), (.int .i64 (.ofNat 0))] [(0, 6, t48), (6, 7, t49), (13, 1, t52), (15, 1, t9)])) H fun t54 H =>
  pBox t54 H fun t55 H =>
  pFa 5 t11 H fun t56 H =>
  ldK .none H t56 fun t57 H =>
  pO (aLen .sl H t57) H fun t58 H =>
  S107_3 call q0 1000000 t1 t2 t4 t9 t43 t55 t41 t42 t43 t57 t58 (.int .i64 (.ofNat 0)) H)) (S107_0 call t4 H)) n
noncomputable def S107_7 (call : CallFn) (t1 t2 t4 : AV) (H : AHeap) : R :=
  pFa 3 t2 H fun t36 H =>
  ldK .none H t36 fun t37 H =>
  pO (aLen .sl H t37) H fun t38 H =>
  pN (aMksl 1 1 [(.bool false)] t38 t38) H fun t39 H =>
  pFa 4 t2 H fun t40 H =>
  ldK .none H t40 fun t41 H =>
  pO (aLen .sl H t41) H fun t42 H =>
  S107_1 call 1000000 t1 t2 t4 t39 t41 t42 (.int .i64 (.ofNat 0)) H
noncomputable def S107_8 (call : CallFn) (n : Nat) : AV → AV → AV → AV → AV → AV → AHeap → R :=
  Nat.rec (motive := fun _ => AV → AV → AV → AV → AV → AV → AHeap → R) (fun _ _ _ _ _ _ _ => none) (fun _ q3 t1 t2 t4 t23 t24 t25 H => pLss t25 t24 H fun t26 H =>
  onBool t26 (pIa 7 t23 t25 H fun t28 H =>
  ldK (.some 7) H t28 fun t29 H =>
  pNew [(.int .i64 (.ofNat 0)), (.int .i64 (.ofNat 0)), (.int .i64 (.ofNat 0)), (.int .i64 (.ofNat 0)), .nilsl, .nilsl, .nilsl] H fun t8 H =>
  stK 7 H t8 t29 fun _ H =>
  ldK (.some 7) H t8 fun t30 H =>
  pC call 140 [t30] H fun t31 H =>
  pO (aUn .not t31) H fun t32 H =>
  onBool t32 (pO (someAgg (aFill [(.int .i64 (.ofNat 0)), (.int .i64 (.ofNat 0)), (.int .i64 (.ofNat 0))] [(0, 1, t25), (1, 1, (.int .i64 (.negSucc 0))), (2, 1, (.int .i64 (.ofNat 3)))])) H fun t34 H =>
  stK 3 H t4 t34 fun _ H =>
  ob (allM (fun o => o) [aLoad (.some 3) H t4, some (.bool false)]) fun vs => some (resV vs, H)) (pAdd t25 (.int .i64 (.ofNat 1)) H fun t35 H =>
  q3 t1 t2 t4 t23 t24 t35 H)) (S107_7 call t1 t2 t4 H)) n
noncomputable def S107_9 (call : CallFn) (t0 t1 : AV) (H : AHeap) : R :=
  pBox t0 H fun t2 H =>
  pNew [(.int .i64 (.ofNat 0)), (.int .i64 (.ofNat 0)), (.int .i64 (.ofNat 0))] H fun t4 H =>
  ldK (.some 6) H t2 fun t16 H =>
  pC call 139 [t16] H fun t17 H =>
  pGtr t17 (.int .i64 (.ofNat 0)) H fun t19 H =>
  onBool t19 (pO (someAgg (aFill [(.int .i64 (.ofNat 0)), (.int .i64 (.ofNat 0)), (.int .i64 (.ofNat 0))] [(0, 1, (.int .i64 (.negSucc 0))), (1, 1, (.int .i64 (.negSucc 0))), (2, 1, t17)])) H fun t21 H =>
  stK 3 H t4 t21 fun _ H =>
  ob (allM (fun o => o) [aLoad (.some 3) H t4, some (.bool false)]) fun vs => some (resV vs, H)) (pFa 4 t2 H fun t22 H =>
  ldK .none H t22 fun t23 H =>
  pO (aLen .sl H t23) H fun t24 H =>
  S107_8 call 1000000 t1 t2 t4 t23 t24 (.int .i64 (.ofNat 0)) H)
noncomputable def S107 : Ff := ⟨fun call l H => argA2 (fun t0 t1 => S107_9 call t0 t1 H) l⟩
/- gantline/arena.New -/
noncomputable def S108_0 (_ : CallFn) (n : Nat) : AV → AV → AV → AHeap → R :=
  Nat.rec (motive := fun _ => AV → AV → AV → AHeap → R) (fun _ _ _ _ => none) (fun _ q0 t4 t23 t24 H => pLss t24 t23 H fun t25 H =>
  onBool t25 (pO (aNil t4) H fun t28 H =>
  pFa 1 t28 H fun t29 H =>
  ldK .none H t29 fun t30 H =>
  pIa 3 t30 t24 H fun t32 H =>
  pFa 0 t32 H fun t33 H =>
  stK 1 H t33 (.int .i64 (.negSucc 0)) fun _ H =>
  pAdd t24 (.int .i64 (.ofNat 1)) H fun t34 H =>
  q0 t4 t23 t34 H) (some (.tup [t4, (.int .i64 (.ofNat 0))], H))) n
noncomputable def S108_1 (call : CallFn) (t0 t8 t10 : AV) (H : AHeap) : R :=
  pPick t8 (.bool true) t10 H fun t11 H =>
  onBool t11 (some (.tup [.nilp, (.int .i64 (.ofNat 1))], H)) (pMul t0 (.int .i64 (.ofNat 64)) H fun t13 H =>
  pN (aMksl 1 8 [(.int .i64 (.ofNat 0))] t13 t13) H fun t14 H =>
  pN (aMksl 3 24 [(.int .i64 (.ofNat 0)), (.int .u64 (.ofNat 0)), (.int .u64 (.ofNat 0))] t0 t0) H fun t16 H =>
  pO (someAgg (aFill [.nilsl, .nilsl] [(0, 1, t14), (1, 1, t16)])) H fun t17 H =>
  pBox t17 H fun t18 H =>
  pO (aNil t18) H fun t20 H =>
  pFa 1 t20 H fun t21 H =>
  ldK .none H t21 fun t22 H =>
  pO (aLen .sl H t22) H fun t23 H =>
  S108_0 call 1000000 t18 t23 (.int .i64 (.ofNat 0)) H)
noncomputable def S108_2 (call : CallFn) (t0 : AV) (H : AHeap) : R :=
  pLss t0 (.int .i64 (.ofNat 8)) H fun t7 H =>
  guardA t7 false (pGtr t0 (.int .i64 (.ofNat 512)) H fun t10 H =>
  S108_1 call t0 t7 t10 H) (S108_1 call t0 t7 U H)
noncomputable def S108 : Ff := ⟨fun call l H => argA1 (fun t0 => S108_2 call t0 H) l⟩
/- gantline/head.New -/
noncomputable def S109_0 (_ : CallFn) (H : AHeap) : R :=
  pMap H fun t1 H =>
  pO (someAgg (aFill [.nilsl, .nilmap] [(1, 1, t1)])) H fun t2 H =>
  pBox t2 H fun t3 H =>
  some (t3, H)
noncomputable def S109 : Ff := ⟨fun call l H => argA0 (S109_0 call H) l⟩
/- gantline/alloc.New -/
noncomputable def S110_0 (call : CallFn) (t0 : AV) (H : AHeap) : R :=
  pC call 143 [t0] H fun t5 H =>
  pN (aMksl 1 1 [(.bool false)] t5 t5) H fun t6 H =>
  pO (someAgg (aFill [.nilp, .nilsl] [(0, 1, t0), (1, 1, t6)])) H fun t7 H =>
  pBox t7 H fun t8 H =>
  some (t8, H)
noncomputable def S110 : Ff := ⟨fun call l H => argA1 (fun t0 => S110_0 call t0 H) l⟩
/- gantline/mark.New -/
noncomputable def S111_0 (call : CallFn) (t0 t1 : AV) (H : AHeap) : R :=
  pC call 144 [] H fun t7 H =>
  pO (someAgg (aFill [.nilp, .nilp, .nilp] [(0, 1, t0), (1, 1, t1), (2, 1, t7)])) H fun t8 H =>
  pBox t8 H fun t9 H =>
  some (t9, H)
noncomputable def S111 : Ff := ⟨fun call l H => argA2 (fun t0 t1 => S111_0 call t0 t1 H) l⟩
/- gantline/head.Good -/
noncomputable def S112_0 (_ : CallFn) (t16 t23 : AV) (H : AHeap) : R :=
  pPick t16 t23 (.bool false) H fun t24 H =>
  some (t24, H)
noncomputable def S112_1 (call : CallFn) (t1 t11 t14 : AV) (H : AHeap) : R :=
  pPick t11 t14 (.bool false) H fun t15 H =>
  guardA t15 true (pFa 2 t1 H fun t17 H =>
  ldK .none H t17 fun t18 H =>
  pFa 1 t1 H fun t19 H =>
  ldK .none H t19 fun t20 H =>
  pConv .u64 t20 H fun t21 H =>
  pO (aBin .shr t18 t21) H fun t22 H =>
  pEql t22 (.int .u64 (.ofNat 0)) H fun t23 H =>
  S112_0 call t15 t23 H) (S112_0 call t15 U H)
noncomputable def S112_2 (_ : CallFn) (t31 t34 : AV) (H : AHeap) : R :=
  pPick t31 t34 (.bool false) H fun t35 H =>
  some (t35, H)
noncomputable def S112_3 (call : CallFn) (t1 t25 : AV) (H : AHeap) : R :=
  onBool t25 (pFa 1 t1 H fun t28 H =>
  ldK .none H t28 fun t29 H =>
  pEql t29 (.int .i64 (.ofNat 0)) H fun t30 H =>
  guardA t30 true (pFa 2 t1 H fun t32 H =>
  ldK .none H t32 fun t33 H =>
  pLeq t33 (.int .u64 (.ofNat 1)) H fun t34 H =>
  S112_2 call t30 t34 H) (S112_2 call t30 U H)) (some ((.bool false), H))
noncomputable def S112_4 (call : CallFn) (t1 t4 t5 : AV) (H : AHeap) : R :=
  onBool t5 (pFa 1 t1 H fun t8 H =>
  ldK .none H t8 fun t9 H =>
  pGeq t9 (.int .i64 (.ofNat 0)) H fun t10 H =>
  guardA t10 true (pFa 1 t1 H fun t12 H =>
  ldK .none H t12 fun t13 H =>
  pLeq t13 (.int .i64 (.ofNat 63)) H fun t14 H =>
  S112_1 call t1 t10 t14 H) (S112_1 call t1 t10 U H)) (pEql t4 (.int .i64 (.ofNat 1)) H fun t26 H =>
  onBool t26 (S112_3 call t1 t26 H) (pEql t4 (.int .i64 (.ofNat 3)) H fun t27 H =>
  S112_3 call t1 t27 H))
noncomputable def S112_5 (call : CallFn) (t0 : AV) (H : AHeap) : R :=
  pBox t0 H fun t1 H =>
  pFa 0 t1 H fun t3 H =>
  ldK .none H t3 fun t4 H =>
  pEql t4 (.int .i64 (.ofNat 0)) H fun t6 H =>
  onBool t6 (S112_4 call t1 t4 t6 H) (pEql t4 (.int .i64 (.ofNat 2)) H fun t7 H =>
  S112_4 call t1 t4 t7 H)
noncomputable def S112 : Ff := ⟨fun call l H => argA1 (fun t0 => S112_5 call t0 H) l⟩
/- gantline/frame.begin -/
noncomputable def S113_0 (_ : CallFn) (t1 t2 t6 t8 t40 t43 : AV) (H : AHeap) : R :=
  pPick t40 (.bool true) t43 H fun t44 H =>
  onBool t44 (pO (someAgg (aFill [(.int .i64 (.ofNat 0)), (.int .i64 (.ofNat 0)), .nilsl] [])) H fun t45 H =>
  stK 3 H t6 t45 fun _ H =>
  ob (allM (fun o => o) [aLoad (.some 3) H t6, some (.int .i64 (.ofNat 1))]) fun vs => some (resV vs, H)) (pFa 2 t8 H fun t46 H =>
  ldK .none H t46 fun t47 H =>
  pN (aMksl 1 8 [(.int .i64 (.ofNat 0))] t47 t47) H fun t48 H =>
  pW (aCopy 1 H t48 t2) fun _ H =>
  pO (someAgg (aFill [(.int .i64 (.ofNat 0)), (.int .i64 (.ofNat 0)), .nilsl] [(0, 1, t1), (2, 1, t48)])) H fun t54 H =>
  stK 3 H t6 t54 fun _ H =>
  ob (allM (fun o => o) [aLoad (.some 3) H t6, some (.int .i64 (.ofNat 0))]) fun vs => some (resV vs, H))
noncomputable def S113_1 (call : CallFn) (t1 t2 t6 t8 t33 t38 : AV) (H : AHeap) : R :=
  pPick t33 (.bool true) t38 H fun t39 H =>
  guardA t39 false (pFa 2 t8 H fun t41 H =>
  ldK .none H t41 fun t42 H =>
  pGtr t42 (.int .i64 (.ofNat 64)) H fun t43 H =>
  S113_0 call t1 t2 t6 t8 t39 t43 H) (S113_0 call t1 t2 t6 t8 t39 U H)
noncomputable def S113_2 (call : CallFn) (t1 t2 t3 t6 t12 t17 : AV) (H : AHeap) : R :=
  pPick t12 (.bool true) t17 H fun t18 H =>
  onBool t18 (pO (someAgg (aFill [(.int .i64 (.ofNat 0)), (.int .i64 (.ofNat 0)), .nilsl] [])) H fun t19 H =>
  stK 3 H t6 t19 fun _ H =>
  ob (allM (fun o => o) [aLoad (.some 3) H t6, some (.int .i64 (.ofNat 1))]) fun vs => some (resV vs, H)) (pFa 4 t3 H fun t20 H =>
  ldK .none H t20 fun t21 H =>
  pIa 7 t21 t1 H fun t23 H =>
  ldK (.some 7) H t23 fun t24 H =>
  pNew [(.int .i64 (.ofNat 0)), (.int .i64 (.ofNat 0)), (.int .i64 (.ofNat 0)), (.int .i64 (.ofNat 0)), .nilsl, .nilsl, .nilsl] H fun t8 H =>
  stK 7 H t8 t24 fun _ H =>
  pO (aLen .sl H t2) H fun t26 H =>
  pFa 0 t8 H fun t27 H =>
  ldK .none H t27 fun t28 H =>
  pFa 1 t8 H fun t29 H =>
  ldK .none H t29 fun t30 H =>
  pAdd t28 t30 H fun t31 H =>
  pNeq t26 t31 H fun t32 H =>
  guardA t32 false (pO (aLen .sl H t2) H fun t35 H =>
  pFa 2 t8 H fun t36 H =>
  ldK .none H t36 fun t37 H =>
  pGtr t35 t37 H fun t38 H =>
  S113_1 call t1 t2 t6 t8 t32 t38 H) (S113_1 call t1 t2 t6 t8 t32 U H))
noncomputable def S113_3 (call : CallFn) (t0 t1 t2 : AV) (H : AHeap) : R :=
  pBox t0 H fun t3 H =>
  pNew [(.int .i64 (.ofNat 0)), (.int .i64 (.ofNat 0)), .nilsl] H fun t6 H =>
  pLss t1 (.int .i64 (.ofNat 0)) H fun t11 H =>
  guardA t11 false (pFa 4 t3 H fun t14 H =>
  ldK .none H t14 fun t15 H =>
  pO (aLen .sl H t15) H fun t16 H =>
  pGeq t1 t16 H fun t17 H =>
  S113_2 call t1 t2 t3 t6 t11 t17 H) (S113_2 call t1 t2 t3 t6 t11 U H)
noncomputable def S113 : Ff := ⟨fun call l H => argA3 (fun t0 t1 t2 => S113_3 call t0 t1 t2 H) l⟩
/- (*gantline/sched.Table).IDs -/
noncomputable def S114_0 (call : CallFn) (t0 : AV) (H : AHeap) : R :=
  pO (aNil t0) H fun t4 H =>
  pFa 6 t4 H fun t5 H =>
  ldK .none H t5 fun t6 H =>
  pC call 146 [t6] H fun t7 H =>
  pC call 145 [t7] H fun t8 H =>
  some (t8, H)
noncomputable def S114 : Ff := ⟨fun call l H => argA1 (fun t0 => S114_0 call t0 H) l⟩
/- (*gantline/sched.Table).Enabled$1 -/
noncomputable def S115_0 (call : CallFn) (t0 t1 t2 : AV) (H : AHeap) : R :=
  ldK .none H t1 fun t5 H =>
  ldK .none H t2 fun t6 H =>
  pC call 116 [t5, t6, t0] H fun t8 H =>
  pO (aLen .sl H t8) H fun t9 H =>
  pEql t9 (.int .i64 (.ofNat 0)) H fun t10 H =>
  some (t10, H)
noncomputable def S115 : Ff := ⟨fun call l H => argA3 (fun t0 t1 t2 => S115_0 call t0 t1 t2 H) l⟩
/- (*gantline/sched.Table).Ways -/
noncomputable def S116_0 (_ : CallFn) (t11 t12 t74 t76 : AV) (H : AHeap) : R :=
  pPick t74 t76 (.bool false) H fun t77 H =>
  onBool t77 (pO (someAgg (aFill [(.int .i64 (.ofNat 0)), (.int .i64 (.ofNat 0)), (.int .i64 (.ofNat 0))] [(0, 1, t11), (1, 1, (.int .i64 (.ofNat 0))), (2, 1, (.int .i64 (.negSucc 0)))])) H fun t79 H =>
  pN (aBsl 3 1 [(.int .i64 (.ofNat 0)), (.int .i64 (.ofNat 0)), (.int .i64 (.ofNat 0))] [(0, 3, t79)]) H fun t80 H =>
  some (t80, H)) (some (t12, H))
noncomputable def S116_1 (call : CallFn) (t11 t12 : AV) (H : AHeap) : R :=
  pO (aLen .sl H t12) H fun t72 H =>
  pEql t72 (.int .i64 (.ofNat 0)) H fun t73 H =>
  guardA t73 true (pNeq t11 (.int .i64 (.negSucc 0)) H fun t76 H =>
  S116_0 call t11 t12 t73 t76 H) (S116_0 call t11 t12 t73 U H)
noncomputable def S116_2 (call : CallFn) (n : Nat) : AV → AV → AV → AV → AV → AV → AV → AV → AHeap → R :=
  Nat.rec (motive := fun _ => AV → AV → AV → AV → AV → AV → AV → AV → AHeap → R) (fun _ _ _ _ _ _ _ _ _ => none) (fun _ q0 t0 t1 t2 t11 t12 t57 t58 t59 H => pLss t59 t58 H fun t60 H =>
  onBool t60 (pIa 4 t57 t59 H fun t61 H =>
  ldK (.some 4) H t61 fun t62 H =>
  pNew [(.int .i64 (.ofNat 0)), (.bool false), (.int .i64 (.ofNat 0)), (.bool false)] H fun t14 H =>
  stK 4 H t14 t62 fun _ H =>
  ldK (.some 4) H t14 fun t67 H =>
  pC call 148 [t0, t1, t2, t67] H fun t68 H =>
  pW (aApp 3 24 H t12 t68) fun t69 H =>
  pAdd t59 (.int .i64 (.ofNat 1)) H fun t70 H =>
  q0 t0 t1 t2 t11 t69 t57 t58 t70 H) (S116_1 call t11 t12 H)) n
noncomputable def S116_3 (call : CallFn) (t0 t1 t2 t7 t8 t42 t45 : AV) (H : AHeap) : R :=
  pPick t42 t45 (.bool false) H fun t46 H =>
  onBool t46 (pO (someAgg (aFill [(.int .i64 (.ofNat 0)), (.int .i64 (.ofNat 0)), (.int .i64 (.ofNat 0))] [(0, 1, (.int .i64 (.negSucc 0))), (1, 1, (.int .i64 (.ofNat 0))), (2, 1, (.int .i64 (.negSucc 0)))])) H fun t47 H =>
  pN (aBsl 3 1 [(.int .i64 (.ofNat 0)), (.int .i64 (.ofNat 0)), (.int .i64 (.ofNat 0))] [(0, 3, t47)]) H fun t48 H =>
  some (t48, H)) (ldK (.some 5) H t8 fun t53 H =>
  pC call 147 [t0, t1, t7, t53] H fun t54 H =>
  pExt t54 0 H fun t55 H =>
  pExt t54 1 H fun t56 H =>
  pO (aLen .sl H t55) H fun t58 H =>
  S116_2 call 1000000 t0 t1 t2 t56 .nilsl t55 t58 (.int .i64 (.ofNat 0)) H)
noncomputable def S116_4 (call : CallFn) (t0 t1 t2 t7 t8 t37 t40 : AV) (H : AHeap) : R :=
  pPick t37 t40 (.bool false) H fun t41 H =>
  guardA t41 true (pFa 0 t8 H fun t43 H =>
  ldK .none H t43 fun t44 H =>
  pNeq t44 (.int .i64 (.ofNat 41)) H fun t45 H =>
  S116_3 call t0 t1 t2 t7 t8 t41 t45 H) (S116_3 call t0 t1 t2 t7 t8 t41 U H)
noncomputable def S116_5 (call : CallFn) (t0 t1 t2 : AV) (H : AHeap) : R :=
  pO (aNil t0) H fun t16 H =>
  pFa 6 t16 H fun t17 H =>
  ldK .none H t17 fun t18 H =>
  pO (aLook .int .nilp false H t18 t2) H fun t20 H =>
  pO (aEq false .ptr t20 .nilp) H fun t22 H =>
  onBool t22 (some (.nilsl, H)) (pO (aNil t0) H fun t26 H =>
  pFa 0 t26 H fun t27 H =>
  ldK (.some 6) H t27 fun t28 H =>
  pC call 88 [t20, t28] H fun t29 H =>
  pExt t29 0 H fun t30 H =>
  pExt t29 1 H fun t31 H =>
  pNew [(.int .i64 (.ofNat 0)), (.int .i64 (.ofNat 0)), (.int .i64 (.ofNat 0)), (.int .i64 (.ofNat 0)), (.int .i64 (.ofNat 0))] H fun t8 H =>
  stK 5 H t8 t30 fun _ H =>
  pO (aUn .not t31) H fun t33 H =>
  onBool t33 (some (.nilsl, H)) (pFa 0 t8 H fun t34 H =>
  ldK .none H t34 fun t35 H =>
  pNeq t35 (.int .i64 (.ofNat 38)) H fun t36 H =>
  guardA t36 true (pFa 0 t8 H fun t38 H =>
  ldK .none H t38 fun t39 H =>
  pNeq t39 (.int .i64 (.ofNat 39)) H fun t40 H =>
  S116_4 call t0 t1 t2 t20 t8 t36 t40 H) (S116_4 call t0 t1 t2 t20 t8 t36 U H)))
noncomputable def S116 : Ff := ⟨fun call l H => argA3 (fun t0 t1 t2 => S116_5 call t0 t1 t2 H) l⟩
/- (*gantline/cycle.Cycle).next -/
noncomputable def S117_0 (call : CallFn) (t0 t1 : AV) (H : AHeap) : R :=
  pI Tryz.prog call t1 "Stacks" [] H fun t8 H =>
  pC call 149 [t8] H fun t9 H =>
  pC call 99 [t9, (.fn 150 [t0] [])] H fun t12 H =>
  pO (aLen .sl H t12) H fun t14 H =>
  pEql t14 (.int .i64 (.ofNat 0)) H fun t15 H =>
  onBool t15 (some (.tup [(.int .i64 (.ofNat 0)), (.bool false)], H)) (pC call 151 [t12] H fun t17 H =>
  some (.tup [t17, (.bool true)], H))
noncomputable def S117 : Ff := ⟨fun call l H => argA2 (fun t0 t1 => S117_0 call t0 t1 H) l⟩
/- (*gantline/cycle.Cycle).Scan -/
noncomputable def S118_0 (call : CallFn) (t0 t1 t2 t18 t23 : AV) (H : AHeap) : R :=
  pPick t18 (.bool true) t23 H fun t24 H =>
  onBool t24 (some ((.bool false), H)) (pI Tryz.prog call t1 "Stack" [t2] H fun t28 H =>
  pC call 124 [t0, t28] H fun _ H =>
  pO (aNil t0) H fun t31 H =>
  pFa 5 t31 H fun t32 H =>
  ldK .none H t32 fun t33 H =>
  pW (unitW (aMapUp .int H t33 t2 (.bool true))) fun _ H =>
  some ((.bool true), H))
noncomputable def S118_1 (call : CallFn) (t0 t1 t2 t10 t16 : AV) (H : AHeap) : R :=
  pPick t10 (.bool true) t16 H fun t17 H =>
  guardA t17 false (pI Tryz.prog call t1 "Stacks" [] H fun t20 H =>
  pC call 141 [t20, t2] H fun t22 H =>
  pO (aUn .not t22) H fun t23 H =>
  S118_0 call t0 t1 t2 t17 t23 H) (S118_0 call t0 t1 t2 t17 U H)
noncomputable def S118_2 (call : CallFn) (t0 t1 t2 : AV) (H : AHeap) : R :=
  pC call 152 [t0] H fun t8 H =>
  pO (aUn .not t8) H fun t9 H =>
  guardA t9 false (pO (aNil t0) H fun t12 H =>
  pFa 5 t12 H fun t13 H =>
  ldK .none H t13 fun t14 H =>
  pO (aLook .int (.bool false) false H t14 t2) H fun t16 H =>
  S118_1 call t0 t1 t2 t9 t16 H) (S118_1 call t0 t1 t2 t9 U H)
noncomputable def S118 : Ff := ⟨fun call l H => argA3 (fun t0 t1 t2 => S118_2 call t0 t1 t2 H) l⟩
/- (*gantline/mark.Marker).Step -/
noncomputable def S119_0 (call : CallFn) (n : Nat) : AV → AV → AV → AV → AHeap → R :=
  Nat.rec (motive := fun _ => AV → AV → AV → AV → AHeap → R) (fun _ _ _ _ _ => none) (fun _ q0 t0 t19 t20 t21 H => pLss t21 t20 H fun t22 H =>
  onBool t22 (pIa 1 t19 t21 H fun t23 H =>
  ldK .none H t23 fun t24 H =>
  pC call 155 [t0, t24] H fun _ H =>
  pAdd t21 (.int .i64 (.ofNat 1)) H fun t28 H =>
  q0 t0 t19 t20 t28 H) (some ((.bool true), H))) n
noncomputable def S119_1 (call : CallFn) (t0 : AV) (H : AHeap) : R :=
  pO (aNil t0) H fun t9 H =>
  pFa 2 t9 H fun t10 H =>
  ldK .none H t10 fun t11 H =>
  pC call 153 [t11] H fun t12 H =>
  pExt t12 0 H fun t13 H =>
  pExt t12 1 H fun t14 H =>
  pO (aUn .not t14) H fun t16 H =>
  onBool t16 (some ((.bool false), H)) (pC call 154 [t0, t13] H fun t19 H =>
  pO (aLen .sl H t19) H fun t20 H =>
  S119_0 call 1000000 t0 t19 t20 (.int .i64 (.ofNat 0)) H)
noncomputable def S119 : Ff := ⟨fun call l H => argA1 (fun t0 => S119_1 call t0 H) l⟩
/- (*gantline/alloc.Alloc).Stale -/
noncomputable def S120_0 (call : CallFn) (n : Nat) : AV → AV → AV → AHeap → R :=
  Nat.rec (motive := fun _ => AV → AV → AV → AHeap → R) (fun _ _ _ _ => none) (fun _ q0 t0 t7 t8 H => pLss t8 t7 H fun t9 H =>
  onBool t9 (pO (aNil t0) H fun t12 H =>
  pFa 1 t12 H fun t13 H =>
  ldK .none H t13 fun t14 H =>
  pO (aNil t0) H fun t17 H =>
  pFa 0 t17 H fun t18 H =>
  ldK .none H t18 fun t19 H =>
  pC call 156 [t19, t8] H fun t21 H =>
  andR (andB (ckV (aLoad .none H t13) t14) true) (
  pNeq t21 (.int .i64 (.negSucc 0)) H fun t22 H =>
  pIa 1 t14 t8 H fun t23 H =>
  stK 1 H t23 t22 fun _ H =>
  pAdd t8 (.int .i64 (.ofNat 1)) H fun t24 H =>
  q0 t0 t7 t24 H)) (some (.tup [], H))) n
noncomputable def S120_1 (call : CallFn) (t0 : AV) (H : AHeap) : R :=
  pO (aNil t0) H fun t4 H =>
  pFa 1 t4 H fun t5 H =>
  ldK .none H t5 fun t6 H =>
  pO (aLen .sl H t6) H fun t7 H =>
  S120_0 call 1000000 t0 t7 (.int .i64 (.ofNat 0)) H
noncomputable def S120 : Ff := ⟨fun call l H => argA1 (fun t0 => S120_1 call t0 H) l⟩
/- (*gantline/alloc.Alloc).SweepOne -/
noncomputable def S121_0 (call : CallFn) (n : Nat) : AV → AV → AV → AV → AHeap → R :=
  Nat.rec (motive := fun _ => AV → AV → AV → AV → AHeap → R) (fun _ _ _ _ _ => none) (fun _ q0 t0 t8 t9 t10 H => pLss t10 t9 H fun t11 H =>
  onBool t11 (pIa 1 t8 t10 H fun t13 H =>
  ldK .none H t13 fun t14 H =>
  onBool t14 (pC call 157 [t0, t10] H fun _ H =>
  some ((.bool true), H)) (pAdd t10 (.int .i64 (.ofNat 1)) H fun t19 H =>
  q0 t0 t8 t9 t19 H)) (some ((.bool false), H))) n
noncomputable def S121_1 (call : CallFn) (t0 : AV) (H : AHeap) : R :=
  pO (aNil t0) H fun t6 H =>
  pFa 1 t6 H fun t7 H =>
  ldK .none H t7 fun t8 H =>
  pO (aLen .sl H t8) H fun t9 H =>
  S121_0 call 1000000 t0 t8 t9 (.int .i64 (.ofNat 0)) H
noncomputable def S121 : Ff := ⟨fun call l H => argA1 (fun t0 => S121_1 call t0 H) l⟩
/- (*gantline/arena.Arena).Clear -/
noncomputable def S123_0 (_ : CallFn) (n : Nat) : AV → AV → AV → AHeap → R :=
  Nat.rec (motive := fun _ => AV → AV → AV → AHeap → R) (fun _ _ _ _ => none) (fun _ q0 t0 t7 t8 H => pLss t8 t7 H fun t9 H =>
  onBool t9 (pO (aNil t0) H fun t12 H =>
  pFa 1 t12 H fun t13 H =>
  ldK .none H t13 fun t14 H =>
  pIa 3 t14 t8 H fun t16 H =>
  pFa 2 t16 H fun t17 H =>
  stK 1 H t17 (.int .u64 (.ofNat 0)) fun _ H =>
  pAdd t8 (.int .i64 (.ofNat 1)) H fun t18 H =>
  q0 t0 t7 t18 H) (some (.tup [], H))) n
noncomputable def S123_1 (call : CallFn) (t0 : AV) (H : AHeap) : R :=
  pO (aNil t0) H fun t4 H =>
  pFa 1 t4 H fun t5 H =>
  ldK .none H t5 fun t6 H =>
  pO (aLen .sl H t6) H fun t7 H =>
  S123_0 call 1000000 t0 t7 (.int .i64 (.ofNat 0)) H
noncomputable def S123 : Ff := ⟨fun call l H => argA1 (fun t0 => S123_1 call t0 H) l⟩
/- (*gantline/cycle.Cycle).shade -/
noncomputable def S124_0 (call : CallFn) (n : Nat) : AV → AV → AV → AV → AHeap → R :=
  Nat.rec (motive := fun _ => AV → AV → AV → AV → AHeap → R) (fun _ _ _ _ _ => none) (fun _ q0 t0 t6 t7 t8 H => pLss t8 t7 H fun t9 H =>
  onBool t9 (pIa 1 t6 t8 H fun t10 H =>
  ldK .none H t10 fun t11 H =>
  pO (aNil t0) H fun t13 H =>
  pFa 3 t13 H fun t14 H =>
  ldK .none H t14 fun t15 H =>
  pC call 155 [t15, t11] H fun _ H =>
  pAdd t8 (.int .i64 (.ofNat 1)) H fun t18 H =>
  q0 t0 t6 t7 t18 H) (some (.tup [], H))) n
noncomputable def S124_1 (call : CallFn) (t0 t1 : AV) (H : AHeap) : R :=
  pO (aLen .sl H t1) H fun t7 H =>
  S124_0 call 1000000 t0 t1 t7 (.int .i64 (.ofNat 0)) H
noncomputable def S124 : Ff := ⟨fun call l H => argA2 (fun t0 t1 => S124_1 call t0 t1 H) l⟩
/- (*gantline/frame.Stack).top -/
noncomputable def S125_0 (_ : CallFn) (t0 : AV) (H : AHeap) : R :=
  pO (aNil t0) H fun t4 H =>
  pFa 0 t4 H fun t5 H =>
  ldK .none H t5 fun t6 H =>
  pO (aLen .sl H t6) H fun t7 H =>
  pEql t7 (.int .i64 (.ofNat 0)) H fun t8 H =>
  onBool t8 (some (.nilp, H)) (pO (aNil t0) H fun t10 H =>
  pFa 0 t10 H fun t11 H =>
  ldK .none H t11 fun t12 H =>
  pO (aNil t0) H fun t14 H =>
  pFa 0 t14 H fun t15 H =>
  ldK .none H t15 fun t16 H =>
  pO (aLen .sl H t16) H fun t17 H =>
  pSub t17 (.int .i64 (.ofNat 1)) H fun t18 H =>
  pIa 3 t12 t18 H fun t19 H =>
  some (t19, H))
noncomputable def S125 : Ff := ⟨fun call l H => argA1 (fun t0 => S125_0 call t0 H) l⟩
/- gantline/frame.clone -/
noncomputable def S126_0 (call : CallFn) (t0 : AV) (H : AHeap) : R :=
  pBox t0 H fun t1 H =>
  pNew [(.int .i64 (.ofNat 0)), (.int .i64 (.ofNat 0)), .nilsl] H fun t2 H =>
  pFa 2 t1 H fun t3 H =>
  ldK .none H t3 fun t4 H =>
  pC call 77 [t4] H fun t5 H =>
  pFa 2 t1 H fun t6 H =>
  stK 1 H t6 t5 fun _ H =>
  ldK (.some 3) H t1 fun t7 H =>
  stK 3 H t2 t7 fun _ H =>
  ob (allM (fun o => o) [aLoad (.some 3) H t2]) fun vs => some (resV vs, H)
noncomputable def S126 : Ff := ⟨fun call l H => argA1 (fun t0 => S126_0 call t0 H) l⟩
/- (*gantline/vm.doing).plain -/
noncomputable def S127_0 (call : CallFn) (t0 : AV) (H : AHeap) : R :=
  pO (aNil t0) H fun t7 H =>
  pFa 3 t7 H fun t8 H =>
  ldK (.some 5) H t8 fun t9 H =>
  pO (aNil t0) H fun t11 H =>
  pFa 2 t11 H fun t12 H =>
  ldK .none H t12 fun t13 H =>
  pNew [(.int .i64 (.ofNat 0)), (.int .i64 (.ofNat 0)), (.int .i64 (.ofNat 0)), (.int .i64 (.ofNat 0)), (.int .i64 (.ofNat 0))] H fun t2 H =>
  stK 5 H t2 t9 fun _ H =>
  andR (andB (ckV (aLoad .none H t12) t13) true) (
  pFa 0 t2 H fun t14 H =>
  ldK .none H t14 fun t15 H =>
  pEql t15 (.int .i64 (.ofNat 0)) H fun t40 H =>
  onBool t40 (pO (aNil t0) H fun t43 H =>
  pFa 0 t43 H fun t44 H =>
  ldK .none H t44 fun t45 H =>
  pO (aNil t45) H fun t46 H =>
  pFa 0 t46 H fun t47 H =>
  pFa 2 t47 H fun t48 H =>
  ldK .none H t48 fun t49 H =>
  pFa 2 t2 H fun t50 H =>
  ldK .none H t50 fun t51 H =>
  pIa 1 t49 t51 H fun t52 H =>
  ldK .none H t52 fun t53 H =>
  pC call 161 [t0, t53] H fun _ H =>
  some (.tup [], H)) (pEql t15 (.int .i64 (.ofNat 1)) H fun t56 H =>
  onBool t56 (pFa 2 t2 H fun t59 H =>
  ldK .none H t59 fun t60 H =>
  pC call 131 [t13, t60] H fun t61 H =>
  pC call 161 [t0, t61] H fun _ H =>
  some (.tup [], H)) (pEql t15 (.int .i64 (.ofNat 2)) H fun t64 H =>
  onBool t64 (pC call 161 [t0, (.int .i64 (.ofNat 0))] H fun _ H =>
  some (.tup [], H)) (pEql t15 (.int .i64 (.ofNat 17)) H fun t68 H =>
  onBool t68 (pFa 2 t2 H fun t71 H =>
  ldK .none H t71 fun t72 H =>
  pC call 131 [t13, t72] H fun t73 H =>
  pEql t73 (.int .i64 (.ofNat 0)) H fun t74 H =>
  pC call 162 [t74] H fun t75 H =>
  pC call 161 [t0, t75] H fun _ H =>
  some (.tup [], H)) (pEql t15 (.int .i64 (.ofNat 18)) H fun t78 H =>
  onBool t78 (pFa 1 t2 H fun t80 H =>
  ldK .none H t80 fun t81 H =>
  pC call 163 [t13, t81] H fun _ H =>
  some (.tup [], H)) (pEql t15 (.int .i64 (.ofNat 19)) H fun t84 H =>
  onBool t84 (pC call 132 [t0] H fun _ H =>
  pFa 1 t2 H fun t88 H =>
  ldK .none H t88 fun t89 H =>
  pC call 131 [t13, t89] H fun t90 H =>
  pNeq t90 (.int .i64 (.ofNat 0)) H fun t91 H =>
  onBool t91 (pFa 2 t2 H fun t93 H =>
  ldK .none H t93 fun t94 H =>
  pC call 163 [t13, t94] H fun _ H =>
  some (.tup [], H)) (some (.tup [], H))) (pEql t15 (.int .i64 (.ofNat 43)) H fun t97 H =>
  onBool t97 (pC call 132 [t0] H fun _ H =>
  some (.tup [], H)) (pFa 0 t2 H fun t17 H =>
  ldK .none H t17 fun t18 H =>
  pFa 2 t2 H fun t20 H =>
  ldK .none H t20 fun t21 H =>
  pFa 3 t2 H fun t24 H =>
  ldK .none H t24 fun t25 H =>
  pC call 131 [t13, t21] H fun t22 H =>
  andR (andB (ckV (aLoad .none H t17) t18) (andB (ckV (aLoad .none H t24) t25) true)) (
  pC call 131 [t13, t25] H fun t26 H =>
  andR (andB (ckV (aLoad .none H t17) t18) true) (
  pC call 164 [t18, t22, t26] H fun t27 H =>
  pExt t27 0 H fun t28 H =>
  pExt t27 1 H fun t29 H =>
  onBool t29 (pC call 161 [t0, t28] H fun _ H =>
  some (.tup [], H)) (pO (aNil t0) H fun t35 H =>
  pFa 0 t35 H fun t36 H =>
  ldK .none H t36 fun t37 H =>
  pC call 133 [t37, (.int .i64 (.ofNat 3))] H fun _ H =>
  some (.tup [], H))))))))))))
noncomputable def S127 : Ff := ⟨fun call l H => argA1 (fun t0 => S127_0 call t0 H) l⟩
/- (*gantline/vm.doing).calls -/
noncomputable def S128_0 (call : CallFn) (t0 : AV) (H : AHeap) : R :=
  pO (aNil t0) H fun t11 H =>
  pFa 3 t11 H fun t12 H =>
  ldK (.some 5) H t12 fun t13 H =>
  pNew [(.int .i64 (.ofNat 0)), (.int .i64 (.ofNat 0)), (.int .i64 (.ofNat 0)), (.int .i64 (.ofNat 0)), (.int .i64 (.ofNat 0))] H fun t2 H =>
  stK 5 H t2 t13 fun _ H =>
  pFa 0 t2 H fun t14 H =>
  ldK .none H t14 fun t15 H =>
  pEql t15 (.int .i64 (.ofNat 20)) H fun t17 H =>
  onBool t17 (pFa 2 t2 H fun t19 H =>
  ldK .none H t19 fun t20 H =>
  pFa 3 t2 H fun t22 H =>
  ldK .none H t22 fun t23 H =>
  pO (aNil t0) H fun t25 H =>
  pFa 0 t25 H fun t26 H =>
  ldK .none H t26 fun t27 H =>
  pO (aNil t27) H fun t28 H =>
  pFa 0 t28 H fun t29 H =>
  pFa 4 t29 H fun t30 H =>
  ldK .none H t30 fun t31 H =>
  pFa 2 t2 H fun t32 H =>
  ldK .none H t32 fun t33 H =>
  pIa 7 t31 t33 H fun t34 H =>
  pFa 0 t34 H fun t35 H =>
  ldK .none H t35 fun t36 H =>
  pC call 166 [t0, t23, t36] H fun t37 H =>
  andR (andB (ckV (aLoad .none H t19) t20) true) (
  pC call 165 [t0, t20, t37] H fun _ H =>
  some (.tup [], H))) (pEql t15 (.int .i64 (.ofNat 21)) H fun t40 H =>
  onBool t40 (pO (aNil t0) H fun t44 H =>
  pFa 2 t44 H fun t45 H =>
  ldK .none H t45 fun t46 H =>
  pFa 2 t2 H fun t47 H =>
  ldK .none H t47 fun t48 H =>
  pFa 3 t2 H fun t50 H =>
  ldK .none H t50 fun t51 H =>
  pFa 4 t2 H fun t52 H =>
  ldK .none H t52 fun t53 H =>
  pC call 131 [t46, t48] H fun t49 H =>
  andR (andB (ckV (aLoad .none H t50) t51) (andB (ckV (aLoad .none H t52) t53) true)) (
  pC call 167 [t0, t49, t51, t53, (.fn 168 [t0] [])] H fun t56 H =>
  pExt t56 0 H fun t57 H =>
  pExt t56 1 H fun t58 H =>
  pExt t56 2 H fun t59 H =>
  onBool t59 (pC call 165 [t0, t57, t58] H fun _ H =>
  some (.tup [], H)) (some (.tup [], H)))) (pEql t15 (.int .i64 (.ofNat 22)) H fun t66 H =>
  onBool t66 (pC call 169 [t0] H fun _ H =>
  some (.tup [], H)) (pEql t15 (.int .i64 (.ofNat 23)) H fun t70 H =>
  onBool t70 (pFa 1 t2 H fun t72 H =>
  ldK .none H t72 fun t73 H =>
  pFa 2 t2 H fun t75 H =>
  ldK .none H t75 fun t76 H =>
  pO (aNil t0) H fun t78 H =>
  pFa 0 t78 H fun t79 H =>
  ldK .none H t79 fun t80 H =>
  pO (aNil t80) H fun t81 H =>
  pFa 0 t81 H fun t82 H =>
  pFa 4 t82 H fun t83 H =>
  ldK .none H t83 fun t84 H =>
  pFa 1 t2 H fun t85 H =>
  ldK .none H t85 fun t86 H =>
  pIa 7 t84 t86 H fun t87 H =>
  pFa 0 t87 H fun t88 H =>
  ldK .none H t88 fun t89 H =>
  pC call 166 [t0, t76, t89] H fun t90 H =>
  andR (andB (ckV (aLoad .none H t72) t73) true) (
  pC call 170 [t0, t73, t90] H fun _ H =>
  some (.tup [], H))) (pEql t15 (.int .i64 (.ofNat 24)) H fun t93 H =>
  onBool t93 (pO (aNil t0) H fun t97 H =>
  pFa 2 t97 H fun t98 H =>
  ldK .none H t98 fun t99 H =>
  pFa 1 t2 H fun t100 H =>
  ldK .none H t100 fun t101 H =>
  pFa 2 t2 H fun t103 H =>
  ldK .none H t103 fun t104 H =>
  pFa 3 t2 H fun t105 H =>
  ldK .none H t105 fun t106 H =>
  pC call 131 [t99, t101] H fun t102 H =>
  andR (andB (ckV (aLoad .none H t103) t104) (andB (ckV (aLoad .none H t105) t106) true)) (
  pC call 167 [t0, t102, t104, t106, (.fn 171 [] [])] H fun t108 H =>
  pExt t108 0 H fun t109 H =>
  pExt t108 1 H fun t110 H =>
  pExt t108 2 H fun t111 H =>
  onBool t111 (pC call 170 [t0, t109, t110] H fun _ H =>
  some (.tup [], H)) (some (.tup [], H)))) (some (.tup [], H))))))
noncomputable def S128 : Ff := ⟨fun call l H => argA1 (fun t0 => S128_0 call t0 H) l⟩
/- (*gantline/vm.doing).make -/
noncomputable def S129_0 (call : CallFn) (t0 t2 t4 t5 : AV) (H : AHeap) : R :=
  pNeq t5 (.int .i64 (.ofNat 0)) H fun t109 H =>
  onBool t109 (pO (aNil t2) H fun t111 H =>
  pFa 11 t111 H fun t112 H =>
  stK 1 H t112 (.int .i64 (.ofNat 4)) fun _ H =>
  some (.tup [], H)) (pC call 161 [t0, t4] H fun _ H =>
  some (.tup [], H))
noncomputable def S129_1 (call : CallFn) (t0 t2 t3 t6 t54 t56 : AV) (H : AHeap) : R :=
  pPick t54 (.bool true) t56 H fun t57 H =>
  onBool t57 (pC call 133 [t2, (.int .i64 (.ofNat 5))] H fun _ H =>
  some (.tup [], H)) (pO (aNil t2) H fun t62 H =>
  pFa 6 t62 H fun t63 H =>
  ldK .none H t63 fun t64 H =>
  pFa 2 t3 H fun t65 H =>
  ldK .none H t65 fun t66 H =>
  pAdd t6 (.int .i64 (.ofNat 1)) H fun t68 H =>
  pC call 172 [t64, t66, t68, (.iface 64 t2)] H fun t71 H =>
  pExt t71 0 H fun t72 H =>
  pExt t71 1 H fun t73 H =>
  S129_0 call t0 t2 t72 t73 H)
noncomputable def S129_2 (call : CallFn) (t0 : AV) (H : AHeap) : R :=
  pO (aNil t0) H fun t9 H =>
  pFa 0 t9 H fun t10 H =>
  ldK .none H t10 fun t11 H =>
  pO (aNil t0) H fun t13 H =>
  pFa 3 t13 H fun t14 H =>
  ldK (.some 5) H t14 fun t15 H =>
  pNew [(.int .i64 (.ofNat 0)), (.int .i64 (.ofNat 0)), (.int .i64 (.ofNat 0)), (.int .i64 (.ofNat 0)), (.int .i64 (.ofNat 0))] H fun t3 H =>
  stK 5 H t3 t15 fun _ H =>
  pFa 0 t3 H fun t16 H =>
  ldK .none H t16 fun t17 H =>
  pEql t17 (.int .i64 (.ofNat 25)) H fun t19 H =>
  onBool t19 (pO (aNil t11) H fun t22 H =>
  pFa 6 t22 H fun t23 H =>
  ldK .none H t23 fun t24 H =>
  pFa 2 t3 H fun t25 H =>
  ldK .none H t25 fun t26 H =>
  pO (aNil t11) H fun t28 H =>
  pFa 0 t28 H fun t29 H =>
  pFa 0 t29 H fun t30 H =>
  ldK .none H t30 fun t31 H =>
  pFa 2 t3 H fun t32 H =>
  ldK .none H t32 fun t33 H =>
  pIa 3 t31 t33 H fun t34 H =>
  pFa 1 t34 H fun t35 H =>
  ldK .none H t35 fun t36 H =>
  pAdd t36 (.int .i64 (.ofNat 1)) H fun t37 H =>
  pC call 172 [t24, t26, t37, (.iface 64 t11)] H fun t40 H =>
  pExt t40 0 H fun t41 H =>
  pExt t40 1 H fun t42 H =>
  S129_0 call t0 t11 t41 t42 H) (pEql t17 (.int .i64 (.ofNat 26)) H fun t44 H =>
  onBool t44 (pO (aNil t0) H fun t46 H =>
  pFa 2 t46 H fun t47 H =>
  ldK .none H t47 fun t48 H =>
  pFa 3 t3 H fun t49 H =>
  ldK .none H t49 fun t50 H =>
  pC call 131 [t48, t50] H fun t51 H =>
  pLss t51 (.int .i64 (.ofNat 0)) H fun t53 H =>
  guardA t53 false (pGtr t51 (.int .i64 (.ofNat 63)) H fun t56 H =>
  S129_1 call t0 t11 t3 t51 t53 t56 H) (S129_1 call t0 t11 t3 t51 t53 U H)) (pEql t17 (.int .i64 (.ofNat 36)) H fun t75 H =>
  onBool t75 (pC call 173 [t0] H fun t78 H =>
  pExt t78 0 H fun t79 H =>
  pExt t78 1 H fun t80 H =>
  S129_0 call t0 t11 t79 t80 H) (pEql t17 (.int .i64 (.ofNat 37)) H fun t82 H =>
  onBool t82 (pO (aNil t11) H fun t85 H =>
  pFa 6 t85 H fun t86 H =>
  ldK .none H t86 fun t87 H =>
  pFa 2 t3 H fun t88 H =>
  ldK .none H t88 fun t89 H =>
  pO (aNil t0) H fun t91 H =>
  pFa 2 t91 H fun t92 H =>
  ldK .none H t92 fun t93 H =>
  pFa 3 t3 H fun t94 H =>
  ldK .none H t94 fun t95 H =>
  pC call 131 [t93, t95] H fun t96 H =>
  andR (andB (ckV (aLoad .none H t86) t87) (andB (ckV (aLoad .none H t88) t89) true)) (
  pC call 174 [t87, t89, t96, (.iface 64 t11)] H fun t99 H =>
  pExt t99 0 H fun t100 H =>
  pExt t99 1 H fun t101 H =>
  pExt t99 2 H fun t102 H =>
  pNeq t101 (.int .i64 (.ofNat 0)) H fun t104 H =>
  onBool t104 (pC call 133 [t11, t101] H fun _ H =>
  some (.tup [], H)) (S129_0 call t0 t11 t100 t102 H))) (S129_0 call t0 t11 (.int .i64 (.ofNat 0)) (.int .i64 (.ofNat 0)) H))))
noncomputable def S129 : Ff := ⟨fun call l H => argA1 (fun t0 => S129_2 call t0 H) l⟩
/- (*gantline/frame.Stack).Get -/
noncomputable def S131_0 (_ : CallFn) (t1 t5 t14 t21 : AV) (H : AHeap) : R :=
  pPick t14 (.bool true) t21 H fun t22 H =>
  onBool t22 (some ((.int .i64 (.ofNat 0)), H)) (pO (aNil t5) H fun t24 H =>
  pFa 2 t24 H fun t25 H =>
  ldK .none H t25 fun t26 H =>
  pIa 1 t26 t1 H fun t28 H =>
  ldK .none H t28 fun t29 H =>
  some (t29, H))
noncomputable def S131_1 (call : CallFn) (t1 t5 t10 t12 : AV) (H : AHeap) : R :=
  pPick t10 (.bool true) t12 H fun t13 H =>
  guardA t13 false (pO (aNil t5) H fun t17 H =>
  pFa 2 t17 H fun t18 H =>
  ldK .none H t18 fun t19 H =>
  pO (aLen .sl H t19) H fun t20 H =>
  pGeq t1 t20 H fun t21 H =>
  S131_0 call t1 t5 t13 t21 H) (S131_0 call t1 t5 t13 U H)
noncomputable def S131_2 (call : CallFn) (t0 t1 : AV) (H : AHeap) : R :=
  pC call 125 [t0] H fun t7 H =>
  pO (aEq false .ptr t7 .nilp) H fun t9 H =>
  guardA t9 false (pLss t1 (.int .i64 (.ofNat 0)) H fun t12 H =>
  S131_1 call t1 t7 t9 t12 H) (S131_1 call t1 t7 t9 U H)
noncomputable def S131 : Ff := ⟨fun call l H => argA2 (fun t0 t1 => S131_2 call t0 t1 H) l⟩
/- (*gantline/vm.doing).on -/
noncomputable def S132_0 (call : CallFn) (t0 : AV) (H : AHeap) : R :=
  pO (aNil t0) H fun t3 H =>
  pFa 2 t3 H fun t4 H =>
  ldK .none H t4 fun t5 H =>
  pO (aNil t0) H fun t7 H =>
  pFa 15 t7 H fun t8 H =>
  ldK .none H t8 fun t9 H =>
  pAdd t9 (.int .i64 (.ofNat 1)) H fun t10 H =>
  pC call 163 [t5, t10] H fun _ H =>
  some (.tup [], H)
noncomputable def S132 : Ff := ⟨fun call l H => argA1 (fun t0 => S132_0 call t0 H) l⟩
end Go.Proofs.YtlmmhkcimjjakaaGreatDoor
