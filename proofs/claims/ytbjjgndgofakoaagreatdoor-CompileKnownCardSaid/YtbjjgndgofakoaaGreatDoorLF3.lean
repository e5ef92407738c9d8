/- Plain functions, printed: part 3. -/
import Derived.Test.YtbjjgndgofakoaaGreatDoorAdE
import Derived.Test.YtbjjgndgofakoaaGreatDoorProg
import Derived.KernelRfl
namespace Go.Proofs.YtbjjgndgofakoaaGreatDoor
open Go.Ab
set_option maxRecDepth 100000
/- gantline/grey.New -/
noncomputable def S235_0 (_ : CallFn) (H : AHeap) : R :=
  pO (someAgg (aFill [.nilsl] [])) H fun t1 H =>
  pBox t1 H fun t2 H =>
  some (t2, H)
noncomputable def S235 : Ff := ⟨fun call l H => argA0 (S235_0 call H) l⟩
/- slices.IndexFunc[[]int,int] -/
noncomputable def S236_0 (call : CallFn) (n : Nat) : AV → AV → AV → AV → AHeap → R :=
  Nat.rec (motive := fun _ => AV → AV → AV → AV → AHeap → R) (fun _ _ _ _ _ => none) (fun _ q0 t0 t1 t7 t8 H => pLss t8 t7 H fun t9 H =>
  onBool t9 (pIa 1 t0 t8 H fun t14 H =>
  ldK .none H t14 fun t15 H =>
  pV call t1 [t15] H fun t16 H =>
  onBool t16 (some (t8, H)) (pAdd t8 (.int .i64 (.ofNat 1)) H fun t18 H =>
  q0 t0 t1 t7 t18 H)) (some ((.int .i64 (.negSucc 0)), H))) n
noncomputable def S236_1 (call : CallFn) (t0 t1 : AV) (H : AHeap) : R :=
  pO (aLen .sl H t0) H fun t7 H =>
  S236_0 call 1000000 t0 t1 t7 (.int .i64 (.ofNat 0)) H
noncomputable def S236 : Ff := ⟨fun call l H => argA2 (fun t0 t1 => S236_1 call t0 t1 H) l⟩
/- slices.Sorted[int] -/
noncomputable def S237_0 (call : CallFn) (t0 : AV) (H : AHeap) : R :=
  pC call 344 [t0] H fun t5 H =>
  pC call 232 [t5] H fun _ H =>
  some (t5, H)
noncomputable def S237 : Ff := ⟨fun call l H => argA1 (fun t0 => S237_0 call t0 H) l⟩
/- maps.Keys[map[int]*gantline/frame.Stack,int,*gantline/frame.Stack] -/
noncomputable def S238_0 (_ : CallFn) (t0 : AV) (H : AHeap) : R :=
  pBox t0 H fun t1 H =>
  some ((.fn 345 [] [t1]), H)
noncomputable def S238 : Ff := ⟨fun call l H => argA1 (fun t0 => S238_0 call t0 H) l⟩
/- (*gantline/vm.doing).give -/
noncomputable def S253_0 (call : CallFn) (t0 t1 : AV) (H : AHeap) : R :=
  pO (aNil t0) H fun t5 H =>
  pFa 2 t5 H fun t6 H =>
  ldK .none H t6 fun t7 H =>
  pO (aNil t0) H fun t9 H =>
  pFa 3 t9 H fun t10 H =>
  pFa 1 t10 H fun t11 H =>
  ldK .none H t11 fun t12 H =>
  pC call 361 [t7, t12, t1] H fun _ H =>
  pC call 172 [t0] H fun _ H =>
  some (.tup [], H)
noncomputable def S253 : Ff := ⟨fun call l H => argA2 (fun t0 t1 => S253_0 call t0 t1 H) l⟩
/- (*gantline/frame.Stack).Jump -/
noncomputable def S255_0 (call : CallFn) (t0 t1 : AV) (H : AHeap) : R :=
  pC call 165 [t0] H fun t6 H =>
  pO (aEq true .ptr t6 .nilp) H fun t8 H =>
  onBool t8 (pO (aNil t6) H fun t11 H =>
  pFa 1 t11 H fun t12 H =>
  stK 1 H t12 t1 fun _ H =>
  some (.tup [], H)) (some (.tup [], H))
noncomputable def S255 : Ff := ⟨fun call l H => argA2 (fun t0 t1 => S255_0 call t0 t1 H) l⟩
/- (*gantline/vm.doing).back -/
noncomputable def S261_0 (call : CallFn) (t0 t3 : AV) (H : AHeap) : R :=
  pO (aNil t0) H fun t102 H =>
  pFa 2 t102 H fun t103 H =>
  ldK .none H t103 fun t104 H =>
  pFa 1 t3 H fun t105 H =>
  ldK .none H t105 fun t106 H =>
  pAdd t106 (.int .i64 (.ofNat 1)) H fun t107 H =>
  pC call 255 [t104, t107] H fun _ H =>
  some (.tup [], H)
noncomputable def S261_1 (call : CallFn) (t0 t2 t3 t5 t88 t91 : AV) (H : AHeap) : R :=
  pPick t88 t91 (.bool false) H fun t92 H =>
  onBool t92 (pO (aNil t0) H fun t94 H =>
  pFa 2 t94 H fun t95 H =>
  ldK .none H t95 fun t96 H =>
  pFa 1 t5 H fun t97 H =>
  ldK .none H t97 fun t98 H =>
  pC call 361 [t96, t98, t2] H fun _ H =>
  S261_0 call t0 t3 H) (S261_0 call t0 t3 H)
noncomputable def S261_2 (call : CallFn) (t0 : AV) (H : AHeap) : R :=
  pO (aNil t0) H fun t8 H =>
  pFa 2 t8 H fun t9 H =>
  ldK .none H t9 fun t10 H =>
  pO (aNil t0) H fun t12 H =>
  pFa 3 t12 H fun t13 H =>
  pFa 1 t13 H fun t14 H =>
  ldK .none H t14 fun t15 H =>
  pC call 171 [t10, t15] H fun t16 H =>
  pO (aNil t0) H fun t18 H =>
  pFa 2 t18 H fun t19 H =>
  ldK .none H t19 fun t20 H =>
  pC call 372 [t20] H fun t21 H =>
  pO (aUn .not t21) H fun t22 H =>
  onBool t22 (pO (aNil t0) H fun t24 H =>
  pFa 0 t24 H fun t25 H =>
  ldK .none H t25 fun t26 H =>
  pO (aNil t26) H fun t27 H =>
  pFa 7 t27 H fun t28 H =>
  ldK .none H t28 fun t29 H =>
  pO (aNil t0) H fun t31 H =>
  pFa 1 t31 H fun t32 H =>
  ldK .none H t32 fun t33 H =>
  pC call 373 [t29, t33] H fun _ H =>
  pO (aNil t0) H fun t36 H =>
  pFa 0 t36 H fun t37 H =>
  ldK .none H t37 fun t38 H =>
  pO (aNil t38) H fun t39 H =>
  pFa 6 t39 H fun t40 H =>
  ldK .none H t40 fun t41 H =>
  pO (aNil t0) H fun t44 H =>
  pFa 1 t44 H fun t45 H =>
  ldK .none H t45 fun t46 H =>
  pC call 54 [t41] H fun t42 H =>
  andR (andB (ckV (aLoad .none H t45) t46) true) (
  pC call 374 [t42, t46] H fun _ H =>
  pO (aNil t0) H fun t49 H =>
  pFa 1 t49 H fun t50 H =>
  ldK .none H t50 fun t51 H =>
  pEql t51 (.int .i64 (.ofNat 1)) H fun t52 H =>
  onBool t52 (pO (aNil t0) H fun t54 H =>
  pFa 0 t54 H fun t55 H =>
  ldK .none H t55 fun t56 H =>
  pO (aNil t56) H fun t57 H =>
  pFa 11 t57 H fun t58 H =>
  stK 1 H t58 (.int .i64 (.ofNat 1)) fun _ H =>
  some (.tup [], H)) (some (.tup [], H)))) (pO (aNil t0) H fun t61 H =>
  pFa 2 t61 H fun t62 H =>
  ldK .none H t62 fun t63 H =>
  pC call 105 [t63] H fun t64 H =>
  pExt t64 0 H fun t65 H =>
  pExt t64 1 H fun _ H =>
  pNew [(.int .i64 (.ofNat 0)), (.int .i64 (.ofNat 0)), .nilsl] H fun t3 H =>
  stK 3 H t3 t65 fun _ H =>
  pO (aNil t0) H fun t69 H =>
  pFa 2 t69 H fun t70 H =>
  ldK .none H t70 fun t71 H =>
  pO (aNil t0) H fun t73 H =>
  pFa 0 t73 H fun t74 H =>
  ldK .none H t74 fun t75 H =>
  pO (aNil t75) H fun t76 H =>
  pFa 0 t76 H fun t77 H =>
  ldK (.some 6) H t77 fun t78 H =>
  pNew [(.int .i64 (.ofNat 0)), (.int .i64 (.ofNat 0)), (.int .i64 (.ofNat 0)), (.int .i64 (.ofNat 0)), (.int .i64 (.ofNat 0))] H fun t5 H =>
  pC call 104 [t71, t78] H fun t79 H =>
  pExt t79 0 H fun t80 H =>
  pExt t79 1 H fun _ H =>
  stK 5 H t5 t80 fun _ H =>
  pO (aNil t0) H fun t83 H =>
  pFa 3 t83 H fun t84 H =>
  pFa 1 t84 H fun t85 H =>
  ldK .none H t85 fun t86 H =>
  pNeq t86 (.int .i64 (.negSucc 0)) H fun t87 H =>
  guardA t87 true (pFa 1 t5 H fun t89 H =>
  ldK .none H t89 fun t90 H =>
  pNeq t90 (.int .i64 (.negSucc 0)) H fun t91 H =>
  S261_1 call t0 t16 t3 t5 t87 t91 H) (S261_1 call t0 t16 t3 t5 t87 U H))
noncomputable def S261 : Ff := ⟨fun call l H => argA1 (fun t0 => S261_2 call t0 H) l⟩
/- slices.IndexFunc[[]gantline/head.Shape,gantline/head.Shape] -/
noncomputable def S281_0 (call : CallFn) (n : Nat) : AV → AV → AV → AV → AHeap → R :=
  Nat.rec (motive := fun _ => AV → AV → AV → AV → AHeap → R) (fun _ _ _ _ _ => none) (fun _ q0 t0 t1 t7 t8 H => pLss t8 t7 H fun t9 H =>
  onBool t9 (pIa 3 t0 t8 H fun t14 H =>
  ldK (.some 3) H t14 fun t15 H =>
  pV call t1 [t15] H fun t16 H =>
  onBool t16 (some (t8, H)) (pAdd t8 (.int .i64 (.ofNat 1)) H fun t18 H =>
  q0 t0 t1 t7 t18 H)) (some ((.int .i64 (.negSucc 0)), H))) n
noncomputable def S281_1 (call : CallFn) (t0 t1 : AV) (H : AHeap) : R :=
  pO (aLen .sl H t0) H fun t7 H =>
  S281_0 call 1000000 t0 t1 t7 (.int .i64 (.ofNat 0)) H
noncomputable def S281 : Ff := ⟨fun call l H => argA2 (fun t0 t1 => S281_1 call t0 t1 H) l⟩
/- slices.IndexFunc[[]int64,int64] -/
noncomputable def S282_0 (call : CallFn) (n : Nat) : AV → AV → AV → AV → AHeap → R :=
  Nat.rec (motive := fun _ => AV → AV → AV → AV → AHeap → R) (fun _ _ _ _ _ => none) (fun _ q0 t0 t1 t7 t8 H => pLss t8 t7 H fun t9 H =>
  onBool t9 (pIa 1 t0 t8 H fun t14 H =>
  ldK .none H t14 fun t15 H =>
  pV call t1 [t15] H fun t16 H =>
  onBool t16 (some (t8, H)) (pAdd t8 (.int .i64 (.ofNat 1)) H fun t18 H =>
  q0 t0 t1 t7 t18 H)) (some ((.int .i64 (.negSucc 0)), H))) n
noncomputable def S282_1 (call : CallFn) (t0 t1 : AV) (H : AHeap) : R :=
  pO (aLen .sl H t0) H fun t7 H =>
  S282_0 call 1000000 t0 t1 t7 (.int .i64 (.ofNat 0)) H
noncomputable def S282 : Ff := ⟨fun call l H => argA2 (fun t0 t1 => S282_1 call t0 t1 H) l⟩
/- (*gantline/verify.checker).slots$1 -/
noncomputable def S283_0 (_ : CallFn) (t6 t9 : AV) (H : AHeap) : R :=
  pPick t6 (.bool true) t9 H fun t10 H =>
  some (t10, H)
noncomputable def S283_1 (call : CallFn) (t0 t1 : AV) (H : AHeap) : R :=
  pEql t0 (.int .i64 (.negSucc 0)) H fun t5 H =>
  guardA t5 false (ldK .none H t1 fun t7 H =>
  pC call 284 [t7, t0] H fun t9 H =>
  S283_0 call t5 t9 H) (S283_0 call t5 U H)
noncomputable def S283 : Ff := ⟨fun call l H => argA2 (fun t0 t1 => S283_1 call t0 t1 H) l⟩
/- (*gantline/verify.checker).slot -/
noncomputable def S284_0 (_ : CallFn) (t7 t14 : AV) (H : AHeap) : R :=
  pPick t7 t14 (.bool false) H fun t15 H =>
  some (t15, H)
noncomputable def S284_1 (call : CallFn) (t0 t1 : AV) (H : AHeap) : R :=
  pGeq t1 (.int .i64 (.ofNat 0)) H fun t6 H =>
  guardA t6 true (pO (aNil t0) H fun t10 H =>
  pFa 6 t10 H fun t11 H =>
  pFa 2 t11 H fun t12 H =>
  ldK .none H t12 fun t13 H =>
  pLss t1 t13 H fun t14 H =>
  S284_0 call t6 t14 H) (S284_0 call t6 U H)
noncomputable def S284 : Ff := ⟨fun call l H => argA2 (fun t0 t1 => S284_1 call t0 t1 H) l⟩
/- slices.ContainsFunc[[]int,int] -/
noncomputable def S291_0 (call : CallFn) (t0 t1 : AV) (H : AHeap) : R :=
  pC call 236 [t0, t1] H fun t7 H =>
  pGeq t7 (.int .i64 (.ofNat 0)) H fun t8 H =>
  some (t8, H)
noncomputable def S291 : Ff := ⟨fun call l H => argA2 (fun t0 t1 => S291_0 call t0 t1 H) l⟩
/- (*gantline/verify.checker).slots$3 -/
noncomputable def S292_0 (call : CallFn) (t0 t1 : AV) (H : AHeap) : R :=
  ldK .none H t1 fun t4 H =>
  pC call 284 [t4, t0] H fun t6 H =>
  pO (aUn .not t6) H fun t7 H =>
  some (t7, H)
noncomputable def S292 : Ff := ⟨fun call l H => argA2 (fun t0 t1 => S292_0 call t0 t1 H) l⟩
/- (*gantline/verify.checker).is -/
noncomputable def S295_0 (call : CallFn) (t0 t1 t2 : AV) (H : AHeap) : R :=
  pBox t0 H fun t3 H =>
  pBox t1 H fun t4 H =>
  pC call 291 [t2, (.fn 393 [] [t3, t4])] H fun t9 H =>
  pO (aUn .not t9) H fun t10 H =>
  some (t10, H)
noncomputable def S295 : Ff := ⟨fun call l H => argA3 (fun t0 t1 t2 => S295_0 call t0 t1 t2 H) l⟩
/- (*gantline/verify.checker).calls -/
noncomputable def S297_0 (_ : CallFn) (t36 t49 : AV) (H : AHeap) : R :=
  pPick t36 (.bool true) t49 H fun t50 H =>
  some (t50, H)
noncomputable def S297_1 (call : CallFn) (t36 t40 t48 : AV) (H : AHeap) : R :=
  guardA t36 false (pPick t40 t48 (.bool false) H fun t49 H =>
  S297_0 call t36 t49 H) (S297_0 call t36 U H)
noncomputable def S297_2 (call : CallFn) (t0 t3 t4 t36 t40 : AV) (H : AHeap) : R :=
  guardA t40 true (pFa 3 t4 H fun t42 H =>
  ldK .none H t42 fun t43 H =>
  pEql t43 (.int .i64 (.ofNat 2)) H fun t44 H =>
  pFa 1 t3 H fun t45 H =>
  ldK .none H t45 fun t46 H =>
  pN (aBsl 1 1 [(.int .i64 (.ofNat 0))] [(0, 1, t46)]) H fun t47 H =>
  pC call 295 [t0, t44, t47] H fun t48 H =>
  S297_1 call t36 t40 t48 H) (S297_1 call t36 t40 U H)
noncomputable def S297_3 (_ : CallFn) (t81 t90 : AV) (H : AHeap) : R :=
  pPick t81 t90 (.bool false) H fun t91 H =>
  some (t91, H)
noncomputable def S297_4 (_ : CallFn) (t109 t120 : AV) (H : AHeap) : R :=
  pPick t109 t120 (.bool false) H fun t121 H =>
  some (t121, H)
noncomputable def S297_5 (call : CallFn) (t109 t110 t116 t119 : AV) (H : AHeap) : R :=
  guardA t109 true (pC call 295 [t110, t116, t119] H fun t120 H =>
  S297_4 call t109 t120 H) (S297_4 call t109 U H)
noncomputable def S297_6 (call : CallFn) (t109 t110 t116 t118 : AV) (H : AHeap) : R :=
  guardA t109 true (pN (aBsl 1 1 [(.int .i64 (.ofNat 0))] [(0, 1, t118)]) H fun t119 H =>
  S297_5 call t109 t110 t116 t119 H) (S297_5 call t109 t110 t116 U H)
noncomputable def S297_7 (call : CallFn) (t109 t110 t116 t117 : AV) (H : AHeap) : R :=
  guardA t109 true (ldK .none H t117 fun t118 H =>
  S297_6 call t109 t110 t116 t118 H) (S297_6 call t109 t110 t116 U H)
noncomputable def S297_8 (call : CallFn) (t3 t109 t110 t116 : AV) (H : AHeap) : R :=
  guardA t109 true (pFa 1 t3 H fun t117 H =>
  S297_7 call t109 t110 t116 t117 H) (S297_7 call t109 t110 t116 U H)
noncomputable def S297_9 (call : CallFn) (t3 t109 t110 t115 : AV) (H : AHeap) : R :=
  guardA t109 true (pEql t115 (.int .i64 (.ofNat 2)) H fun t116 H =>
  S297_8 call t3 t109 t110 t116 H) (S297_8 call t3 t109 t110 U H)
noncomputable def S297_10 (call : CallFn) (t3 t109 t110 t114 : AV) (H : AHeap) : R :=
  guardA t109 true (ldK .none H t114 fun t115 H =>
  S297_9 call t3 t109 t110 t115 H) (S297_9 call t3 t109 t110 U H)
noncomputable def S297_11 (call : CallFn) (t3 t109 t110 t113 : AV) (H : AHeap) : R :=
  guardA t109 true (pFa 3 t113 H fun t114 H =>
  S297_10 call t3 t109 t110 t114 H) (S297_10 call t3 t109 t110 U H)
noncomputable def S297_12 (call : CallFn) (t3 t109 t110 t112 : AV) (H : AHeap) : R :=
  guardA t109 true (pFa 6 t112 H fun t113 H =>
  S297_11 call t3 t109 t110 t113 H) (S297_11 call t3 t109 t110 U H)
noncomputable def S297_13 (call : CallFn) (t3 t109 t110 t111 : AV) (H : AHeap) : R :=
  guardA t109 true (pO (aNil t111) H fun t112 H =>
  S297_12 call t3 t109 t110 t112 H) (S297_12 call t3 t109 t110 U H)
noncomputable def S297_14 (call : CallFn) (t0 t3 t109 t110 : AV) (H : AHeap) : R :=
  guardA t109 true (S297_13 call t3 t109 t110 t0 H) (S297_13 call t3 t109 t110 U H)
noncomputable def S297_15 (call : CallFn) (t0 : AV) (H : AHeap) : R :=
  pO (aNil t0) H fun t11 H =>
  pFa 17 t11 H fun t12 H =>
  ldK (.some 5) H t12 fun t13 H =>
  pNew [(.int .i64 (.ofNat 0)), (.int .i64 (.ofNat 0)), (.int .i64 (.ofNat 0)), (.int .i64 (.ofNat 0)), (.int .i64 (.ofNat 0))] H fun t3 H =>
  stK 5 H t3 t13 fun _ H =>
  pFa 0 t3 H fun t14 H =>
  ldK .none H t14 fun t15 H =>
  pEql t15 (.int .i64 (.ofNat 20)) H fun t17 H =>
  onBool t17 (pFa 2 t3 H fun t20 H =>
  ldK .none H t20 fun t21 H =>
  pC call 287 [t0, t21] H fun t22 H =>
  pExt t22 0 H fun t23 H =>
  pExt t22 1 H fun _ H =>
  pNew [(.int .i64 (.ofNat 0)), (.int .i64 (.ofNat 0)), (.int .i64 (.ofNat 0)), (.int .i64 (.ofNat 0)), .nilsl, .nilsl, .nilsl] H fun t4 H =>
  stK 7 H t4 t23 fun _ H =>
  ldK (.some 7) H t4 fun t26 H =>
  pFa 3 t3 H fun t27 H =>
  ldK .none H t27 fun t28 H =>
  pFa 0 t4 H fun t29 H =>
  ldK .none H t29 fun t30 H =>
  pC call 394 [t0, t26, (.int .i64 (.ofNat 0)), t28, t30] H fun t31 H =>
  pO (aUn .not t31) H fun t32 H =>
  onBool t32 (some ((.bool false), H)) (pFa 1 t3 H fun t33 H =>
  ldK .none H t33 fun t34 H =>
  pEql t34 (.int .i64 (.negSucc 0)) H fun t35 H =>
  guardA t35 false (pFa 3 t4 H fun t37 H =>
  ldK .none H t37 fun t38 H =>
  pGtr t38 (.int .i64 (.ofNat 0)) H fun t39 H =>
  S297_2 call t0 t3 t4 t35 t39 H) (S297_2 call t0 t3 t4 t35 U H))) (pEql t15 (.int .i64 (.ofNat 23)) H fun t52 H =>
  onBool t52 (pFa 1 t3 H fun t55 H =>
  ldK .none H t55 fun t56 H =>
  pC call 287 [t0, t56] H fun t57 H =>
  pExt t57 0 H fun t58 H =>
  pExt t57 1 H fun _ H =>
  pNew [(.int .i64 (.ofNat 0)), (.int .i64 (.ofNat 0)), (.int .i64 (.ofNat 0)), (.int .i64 (.ofNat 0)), .nilsl, .nilsl, .nilsl] H fun t6 H =>
  stK 7 H t6 t58 fun _ H =>
  ldK (.some 7) H t6 fun t61 H =>
  pFa 2 t3 H fun t62 H =>
  ldK .none H t62 fun t63 H =>
  pFa 0 t6 H fun t64 H =>
  ldK .none H t64 fun t65 H =>
  pC call 394 [t0, t61, (.int .i64 (.ofNat 0)), t63, t65] H fun t66 H =>
  some (t66, H)) (pEql t15 (.int .i64 (.ofNat 36)) H fun t68 H =>
  onBool t68 (pFa 2 t3 H fun t71 H =>
  ldK .none H t71 fun t72 H =>
  pC call 287 [t0, t72] H fun t73 H =>
  pExt t73 0 H fun t74 H =>
  pExt t73 1 H fun _ H =>
  pNew [(.int .i64 (.ofNat 0)), (.int .i64 (.ofNat 0)), (.int .i64 (.ofNat 0)), (.int .i64 (.ofNat 0)), .nilsl, .nilsl, .nilsl] H fun t8 H =>
  stK 7 H t8 t74 fun _ H =>
  pFa 1 t3 H fun t77 H =>
  ldK .none H t77 fun t78 H =>
  pN (aBsl 1 1 [(.int .i64 (.ofNat 0))] [(0, 1, t78)]) H fun t79 H =>
  pC call 295 [t0, (.bool true), t79] H fun t80 H =>
  guardA t80 true (ldK (.some 7) H t8 fun t83 H =>
  pFa 0 t8 H fun t84 H =>
  ldK .none H t84 fun t85 H =>
  pFa 3 t3 H fun t86 H =>
  ldK .none H t86 fun t87 H =>
  pFa 1 t8 H fun t88 H =>
  ldK .none H t88 fun t89 H =>
  pC call 394 [t0, t83, t85, t87, t89] H fun t90 H =>
  S297_3 call t80 t90 H) (S297_3 call t80 U H)) (pEql t15 (.int .i64 (.ofNat 22)) H fun t93 H =>
  onBool t93 (pFa 1 t3 H fun t94 H =>
  ldK .none H t94 fun t95 H =>
  pEql t95 (.int .i64 (.negSucc 0)) H fun t96 H =>
  onBool t96 (pO (aNil t0) H fun t98 H =>
  pFa 6 t98 H fun t99 H =>
  pFa 3 t99 H fun t100 H =>
  ldK .none H t100 fun t101 H =>
  pEql t101 (.int .i64 (.ofNat 0)) H fun t102 H =>
  some (t102, H)) (pO (aNil t0) H fun t104 H =>
  pFa 6 t104 H fun t105 H =>
  pFa 3 t105 H fun t106 H =>
  ldK .none H t106 fun t107 H =>
  pGtr t107 (.int .i64 (.ofNat 0)) H fun t108 H =>
  guardA t108 true (S297_14 call t0 t3 t108 t0 H) (S297_14 call t0 t3 t108 U H))) (some ((.bool true), H)))))
noncomputable def S297 : Ff := ⟨fun call l H => argA1 (fun t0 => S297_15 call t0 H) l⟩
/- (*gantline/verify.checker).targets -/
noncomputable def S298_0 (_ : CallFn) (n : Nat) : AV → AV → AV → AV → AHeap → R :=
  Nat.rec (motive := fun _ => AV → AV → AV → AV → AHeap → R) (fun _ _ _ _ _ => none) (fun _ q0 t3 t36 t37 t38 H => pLss t38 t37 H fun t39 H =>
  onBool t39 (pIa 4 t36 t38 H fun t40 H =>
  ldK (.some 4) H t40 fun t41 H =>
  pNew [(.int .i64 (.ofNat 0)), (.int .i64 (.ofNat 0)), (.int .i64 (.ofNat 0)), (.int .i64 (.ofNat 0))] H fun t7 H =>
  stK 4 H t7 t41 fun _ H =>
  pFa 3 t7 H fun t43 H =>
  ldK .none H t43 fun t44 H =>
  pN (aBsl 1 1 [(.int .i64 (.ofNat 0))] [(0, 1, t44)]) H fun t45 H =>
  pW (aApp 1 8 H t3 t45) fun t46 H =>
  pAdd t38 (.int .i64 (.ofNat 1)) H fun t47 H =>
  q0 t46 t36 t37 t47 H) (some (t3, H))) n
noncomputable def S298_1 (call : CallFn) (t0 : AV) (H : AHeap) : R :=
  pO (aNil t0) H fun t9 H =>
  pFa 17 t9 H fun t10 H =>
  pFa 0 t10 H fun t11 H =>
  ldK .none H t11 fun t12 H =>
  pEql t12 (.int .i64 (.ofNat 18)) H fun t14 H =>
  onBool t14 (pO (aNil t0) H fun t16 H =>
  pFa 17 t16 H fun t17 H =>
  pFa 1 t17 H fun t18 H =>
  ldK .none H t18 fun t19 H =>
  pN (aBsl 1 1 [(.int .i64 (.ofNat 0))] [(0, 1, t19)]) H fun t20 H =>
  some (t20, H)) (pEql t12 (.int .i64 (.ofNat 19)) H fun t22 H =>
  onBool t22 (pO (aNil t0) H fun t24 H =>
  pFa 17 t24 H fun t25 H =>
  pFa 2 t25 H fun t26 H =>
  ldK .none H t26 fun t27 H =>
  pN (aBsl 1 1 [(.int .i64 (.ofNat 0))] [(0, 1, t27)]) H fun t28 H =>
  some (t28, H)) (pEql t12 (.int .i64 (.ofNat 41)) H fun t30 H =>
  onBool t30 (pC call 288 [t0] H fun t33 H =>
  pExt t33 0 H fun t34 H =>
  pExt t33 1 H fun _ H =>
  pO (aLen .sl H t34) H fun t37 H =>
  S298_0 call 1000000 .nilsl t34 t37 (.int .i64 (.ofNat 0)) H) (some (.nilsl, H))))
noncomputable def S298 : Ff := ⟨fun call l H => argA1 (fun t0 => S298_1 call t0 H) l⟩
/- slices.Index[[]string,string] -/
noncomputable def S305_0 (_ : CallFn) (n : Nat) : AV → AV → AV → AV → AHeap → R :=
  Nat.rec (motive := fun _ => AV → AV → AV → AV → AHeap → R) (fun _ _ _ _ _ => none) (fun _ q0 t0 t1 t7 t8 H => pLss t8 t7 H fun t9 H =>
  onBool t9 (pIa 1 t0 t8 H fun t14 H =>
  ldK .none H t14 fun t15 H =>
  pEql t1 t15 H fun t16 H =>
  onBool t16 (some (t8, H)) (pAdd t8 (.int .i64 (.ofNat 1)) H fun t18 H =>
  q0 t0 t1 t7 t18 H)) (some ((.int .i64 (.negSucc 0)), H))) n
noncomputable def S305_1 (call : CallFn) (t0 t1 : AV) (H : AHeap) : R :=
  pO (aLen .sl H t0) H fun t7 H =>
  S305_0 call 1000000 t0 t1 t7 (.int .i64 (.ofNat 0)) H
noncomputable def S305 : Ff := ⟨fun call l H => argA2 (fun t0 t1 => S305_1 call t0 t1 H) l⟩
/- (*gantline/parse.parser).in -/
noncomputable def S306_0 (call : CallFn) (t0 : AV) (H : AHeap) : R :=
  pO (aNil t0) H fun t3 H =>
  pFa 2 t3 H fun t4 H =>
  ldK .none H t4 fun t5 H =>
  pAdd t5 (.int .i64 (.ofNat 1)) H fun t6 H =>
  pO (aNil t0) H fun t7 H =>
  pFa 2 t7 H fun t8 H =>
  stK 1 H t8 t6 fun _ H =>
  pO (aNil t0) H fun t10 H =>
  pFa 2 t10 H fun t11 H =>
  ldK .none H t11 fun t12 H =>
  pGtr t12 (.int .i64 (.ofNat 60)) H fun t13 H =>
  onBool t13 (pC call 129 [t0, (.int .i64 (.ofNat 2))] H fun _ H =>
  some (.tup [], H)) (some (.tup [], H))
noncomputable def S306 : Ff := ⟨fun call l H => argA1 (fun t0 => S306_0 call t0 H) l⟩
/- (*gantline/parse.parser).stmt -/
noncomputable def S308_0 (_ : CallFn) (t2 t3 : AV) (H : AHeap) : R :=
  ldK (.some 4) H t3 fun t151 H =>
  stK 4 H t2 t151 fun _ H =>
  ob (allM (fun o => o) [aLoad (.some 4) H t2]) fun vs => some (resV vs, H)
noncomputable def S308_1 (call : CallFn) (t0 t2 t3 : AV) (H : AHeap) : R :=
  pC call 125 [t0, (.str [59])] H fun _ H =>
  S308_0 call t2 t3 H
noncomputable def S308_2 (call : CallFn) (t0 t2 t3 : AV) (H : AHeap) : R :=
  pC call 125 [t0, (.str [59])] H fun _ H =>
  S308_0 call t2 t3 H
noncomputable def S308_3 (call : CallFn) (t0 t2 t3 : AV) (H : AHeap) : R :=
  pC call 125 [t0, (.str [125])] H fun _ H =>
  S308_0 call t2 t3 H
noncomputable def S308_5 (call : CallFn) (q0 : AV → AV → AV → AHeap → R) (t0 t2 t3 t136 t140 : AV) (H : AHeap) : R :=
  pPick t136 t140 (.bool false) H fun t141 H =>
  onBool t141 (pFa 3 t3 H fun t142 H =>
  ldK .none H t142 fun t143 H =>
  pC call 400 [t0] H fun t145 H =>
  andR (andB (ckV (aLoad .none H t142) t143) true) (
  pN (aBsl 4 1 [(.str []), (.str []), (.int .i64 (.ofNat 0)), .nilsl] [(0, 4, t145)]) H fun t146 H =>
  pW (aApp 4 64 H t143 t146) fun t147 H =>
  pFa 3 t3 H fun t148 H =>
  stK 1 H t148 t147 fun _ H =>
  q0 t0 t2 t3 H)) (S308_3 call t0 t2 t3 H)
noncomputable def S308_4 (call : CallFn) (n : Nat) : AV → AV → AV → AHeap → R :=
  Nat.rec (motive := fun _ => AV → AV → AV → AHeap → R) (fun _ _ _ _ => none) (fun _ q0 t0 t2 t3 H => pO (aNil t0) H fun t132 H =>
  pFa 3 t132 H fun t133 H =>
  ldK .none H t133 fun t134 H =>
  pEql t134 (.int .i64 (.ofNat 0)) H fun t135 H =>
  guardA t135 true (pN (aBsl 1 1 [(.str [])] [(0, 1, (.str [125]))]) H fun t138 H =>
  pC call 126 [t0, t138] H fun t139 H =>
  pO (aUn .not t139) H fun t140 H =>
  S308_5 call q0 t0 t2 t3 t135 t140 H) (S308_5 call q0 t0 t2 t3 t135 U H)) n
noncomputable def S308_6 (call : CallFn) (t0 t2 t3 t91 t93 : AV) (H : AHeap) : R :=
  pPick t91 (.bool true) t93 H fun t94 H =>
  onBool t94 (pC call 398 [t0] H fun t96 H =>
  pN (aBsl 4 1 [(.str []), (.str []), (.int .i64 (.ofNat 0)), .nilsl] [(0, 4, t96)]) H fun t97 H =>
  pFa 3 t3 H fun t98 H =>
  stK 1 H t98 t97 fun _ H =>
  pC call 125 [t0, (.str [59])] H fun _ H =>
  S308_0 call t2 t3 H) (pC call 123 [t0, (.str [103, 111])] H fun t103 H =>
  onBool t103 (pC call 398 [t0] H fun t105 H =>
  pN (aBsl 4 1 [(.str []), (.str []), (.int .i64 (.ofNat 0)), .nilsl] [(0, 4, t105)]) H fun t106 H =>
  pFa 3 t3 H fun t107 H =>
  stK 1 H t107 t106 fun _ H =>
  pFa 3 t3 H fun t108 H =>
  ldK .none H t108 fun t109 H =>
  pIa 4 t109 (.int .i64 (.ofNat 0)) H fun t110 H =>
  pFa 0 t110 H fun t111 H =>
  ldK .none H t111 fun t112 H =>
  pNeq t112 (.str [99, 97, 108, 108]) H fun t113 H =>
  onBool t113 (pC call 129 [t0, (.int .i64 (.ofNat 6))] H fun _ H =>
  S308_2 call t0 t2 t3 H) (S308_2 call t0 t2 t3 H)) (pC call 123 [t0, (.str [115, 101, 110, 100])] H fun t120 H =>
  onBool t120 (pC call 399 [t0] H fun t122 H =>
  pFa 3 t3 H fun t123 H =>
  stK 1 H t123 t122 fun _ H =>
  pC call 125 [t0, (.str [59])] H fun _ H =>
  S308_0 call t2 t3 H) (pC call 123 [t0, (.str [115, 101, 108, 101, 99, 116])] H fun t128 H =>
  onBool t128 (pC call 125 [t0, (.str [123])] H fun _ H =>
  S308_4 call 1000000 t0 t2 t3 H) (pC call 401 [t0] H fun t11 H =>
  stK 4 H t2 t11 fun _ H =>
  ob (allM (fun o => o) [aLoad (.some 4) H t2]) fun vs => some (resV vs, H)))))
noncomputable def S308_7 (call : CallFn) (t0 : AV) (H : AHeap) : R :=
  pNew [(.str []), (.str []), (.int .i64 (.ofNat 0)), .nilsl] H fun t2 H =>
  pC call 62 [t0] H fun t7 H =>
  pO (aFld 1 .none t7) H fun t8 H =>
  pC call 61 [t0, t8] H fun t9 H =>
  pNew [(.str []), (.str []), (.int .i64 (.ofNat 0)), .nilsl] H fun t3 H =>
  stK 4 H t3 t9 fun _ H =>
  pN (aBsl 1 1 [(.str [])] [(0, 1, (.str [123]))]) H fun t14 H =>
  pC call 126 [t0, t14] H fun t15 H =>
  onBool t15 (pC call 196 [t0] H fun t17 H =>
  stK 4 H t2 t17 fun _ H =>
  ob (allM (fun o => o) [aLoad (.some 4) H t2]) fun vs => some (resV vs, H)) (pC call 123 [t0, (.str [118, 97, 114])] H fun t20 H =>
  onBool t20 (pFa 2 t3 H fun t21 H =>
  ldK .none H t21 fun t22 H =>
  pC call 127 [t0, (.str [108, 101, 116])] H fun t24 H =>
  stK 4 H t3 t24 fun _ H =>
  pFa 2 t3 H fun t26 H =>
  stK 1 H t26 t22 fun _ H =>
  pC call 125 [t0, (.str [61])] H fun _ H =>
  pFa 3 t3 H fun t29 H =>
  ldK .none H t29 fun t30 H =>
  pC call 398 [t0] H fun t32 H =>
  andR (andB (ckV (aLoad .none H t29) t30) true) (
  pN (aBsl 4 1 [(.str []), (.str []), (.int .i64 (.ofNat 0)), .nilsl] [(0, 4, t32)]) H fun t33 H =>
  pW (aApp 4 64 H t30 t33) fun t34 H =>
  pFa 3 t3 H fun t35 H =>
  stK 1 H t35 t34 fun _ H =>
  pC call 125 [t0, (.str [59])] H fun _ H =>
  S308_0 call t2 t3 H)) (pC call 123 [t0, (.str [105, 102])] H fun t40 H =>
  onBool t40 (pC call 398 [t0] H fun t42 H =>
  pC call 196 [t0] H fun t44 H =>
  pN (aBsl 4 2 [(.str []), (.str []), (.int .i64 (.ofNat 0)), .nilsl] [(0, 4, t42), (4, 4, t44)]) H fun t45 H =>
  pFa 3 t3 H fun t46 H =>
  stK 1 H t46 t45 fun _ H =>
  pC call 123 [t0, (.str [101, 108, 115, 101])] H fun t48 H =>
  onBool t48 (pFa 3 t3 H fun t49 H =>
  ldK .none H t49 fun t50 H =>
  pC call 196 [t0] H fun t52 H =>
  andR (andB (ckV (aLoad .none H t49) t50) true) (
  pN (aBsl 4 1 [(.str []), (.str []), (.int .i64 (.ofNat 0)), .nilsl] [(0, 4, t52)]) H fun t53 H =>
  pW (aApp 4 64 H t50 t53) fun t54 H =>
  pFa 3 t3 H fun t55 H =>
  stK 1 H t55 t54 fun _ H =>
  S308_0 call t2 t3 H)) (pFa 3 t3 H fun t56 H =>
  ldK .none H t56 fun t57 H =>
  pC call 61 [t0, (.str [110, 111, 110, 101])] H fun t59 H =>
  andR (andB (ckV (aLoad .none H t56) t57) true) (
  pN (aBsl 4 1 [(.str []), (.str []), (.int .i64 (.ofNat 0)), .nilsl] [(0, 4, t59)]) H fun t60 H =>
  pW (aApp 4 64 H t57 t60) fun t61 H =>
  pFa 3 t3 H fun t62 H =>
  stK 1 H t62 t61 fun _ H =>
  S308_0 call t2 t3 H))) (pC call 123 [t0, (.str [119, 104, 105, 108, 101])] H fun t65 H =>
  onBool t65 (pC call 398 [t0] H fun t67 H =>
  pC call 196 [t0] H fun t69 H =>
  pN (aBsl 4 2 [(.str []), (.str []), (.int .i64 (.ofNat 0)), .nilsl] [(0, 4, t67), (4, 4, t69)]) H fun t70 H =>
  pFa 3 t3 H fun t71 H =>
  stK 1 H t71 t70 fun _ H =>
  S308_0 call t2 t3 H) (pC call 123 [t0, (.str [114, 101, 116, 117, 114, 110])] H fun t74 H =>
  onBool t74 (pN (aBsl 1 1 [(.str [])] [(0, 1, (.str [59]))]) H fun t76 H =>
  pC call 126 [t0, t76] H fun t77 H =>
  onBool t77 (pC call 61 [t0, (.str [110, 111, 110, 101])] H fun t79 H =>
  pN (aBsl 4 1 [(.str []), (.str []), (.int .i64 (.ofNat 0)), .nilsl] [(0, 4, t79)]) H fun t80 H =>
  pFa 3 t3 H fun t81 H =>
  stK 1 H t81 t80 fun _ H =>
  S308_1 call t0 t2 t3 H) (pC call 398 [t0] H fun t83 H =>
  pN (aBsl 4 1 [(.str []), (.str []), (.int .i64 (.ofNat 0)), .nilsl] [(0, 4, t83)]) H fun t84 H =>
  pFa 3 t3 H fun t85 H =>
  stK 1 H t85 t84 fun _ H =>
  S308_1 call t0 t2 t3 H)) (pC call 123 [t0, (.str [112, 114, 105, 110, 116])] H fun t90 H =>
  guardA t90 false (pC call 123 [t0, (.str [99, 108, 111, 115, 101])] H fun t93 H =>
  S308_6 call t0 t2 t3 t90 t93 H) (S308_6 call t0 t2 t3 t90 U H))))))
noncomputable def S308 : Ff := ⟨fun call l H => argA1 (fun t0 => S308_7 call t0 H) l⟩
/- internal/stringslite.CutPrefix -/
noncomputable def S309_0 (call : CallFn) (t0 t1 : AV) (H : AHeap) : R :=
  pC call 187 [t0, t1] H fun t8 H =>
  pO (aUn .not t8) H fun t9 H =>
  onBool t9 (some (.tup [t0, (.bool false)], H)) (pO (aLen .str H t1) H fun t13 H =>
  pO (aSliceS t0 (.some t13) .none) H fun t14 H =>
  some (.tup [t14, (.bool true)], H))
noncomputable def S309 : Ff := ⟨fun call l H => argA2 (fun t0 t1 => S309_0 call t0 t1 H) l⟩
/- gantline/check.plain -/
noncomputable def S310_0 (_ : CallFn) (t0 : AV) (H : AHeap) : R :=
  pNew [(.str []), (.str []), (.int .i64 (.ofNat 0)), .nilsl] H fun t2 H =>
  pO (someAgg (aFill [(.str []), (.str []), (.int .i64 (.ofNat 0)), .nilsl] [(0, 1, t0)])) H fun t4 H =>
  stK 4 H t2 t4 fun _ H =>
  ob (allM (fun o => o) [aLoad (.some 4) H t2]) fun vs => some (resV vs, H)
noncomputable def S310 : Ff := ⟨fun call l H => argA1 (fun t0 => S310_0 call t0 H) l⟩
/- (*gantline/lower.maker).constant -/
noncomputable def S321_0 (call : CallFn) (t0 t1 : AV) (H : AHeap) : R :=
  pO (aNil t0) H fun t7 H =>
  pFa 4 t7 H fun t8 H =>
  pFa 2 t8 H fun t9 H =>
  ldK .none H t9 fun t10 H =>
  pC call 406 [t10, t1] H fun t12 H =>
  pLss t12 (.int .i64 (.ofNat 0)) H fun t14 H =>
  onBool t14 (pO (aNil t0) H fun t16 H =>
  pFa 4 t16 H fun t17 H =>
  pFa 2 t17 H fun t18 H =>
  ldK .none H t18 fun t19 H =>
  pO (aLen .sl H t19) H fun t20 H =>
  pO (aNil t0) H fun t23 H =>
  pFa 4 t23 H fun t24 H =>
  pFa 2 t24 H fun t25 H =>
  ldK .none H t25 fun t26 H =>
  pN (aBsl 1 1 [(.int .i64 (.ofNat 0))] [(0, 1, t1)]) H fun t28 H =>
  pW (aApp 1 8 H t26 t28) fun t29 H =>
  pO (aNil t0) H fun t30 H =>
  pFa 4 t30 H fun t31 H =>
  pFa 2 t31 H fun t32 H =>
  stK 1 H t32 t29 fun _ H =>
  some (t20, H)) (some (t12, H))
noncomputable def S321 : Ff := ⟨fun call l H => argA2 (fun t0 t1 => S321_0 call t0 t1 H) l⟩
/- gantline/lower.number -/
noncomputable def S322_0 (call : CallFn) (t0 : AV) (H : AHeap) : R :=
  pC call 407 [t0, (.int .i64 (.ofNat 10)), (.int .i64 (.ofNat 64))] H fun t7 H =>
  pExt t7 0 H fun t8 H =>
  pExt t7 1 H fun _ H =>
  some (t8, H)
noncomputable def S322 : Ff := ⟨fun call l H => argA1 (fun t0 => S322_0 call t0 H) l⟩
/- (*gantline/lower.builder).typ -/
noncomputable def S335_0 (call : CallFn) (t0 t3 t4 t9 t93 : AV) (H : AHeap) : R :=
  onBool t93 (pFa 3 t3 H fun t98 H =>
  ldK .none H t98 fun t99 H =>
  pIa 4 t99 (.int .i64 (.ofNat 0)) H fun t100 H =>
  ldK (.some 4) H t100 fun t101 H =>
  pC call 335 [t0, t101] H fun t102 H =>
  pO (aFld 3 .none t102) H fun t103 H =>
  pIa 4 t103 (.int .i64 (.ofNat 0)) H fun t104 H =>
  ldK (.some 4) H t104 fun t105 H =>
  stK 4 H t4 t105 fun _ H =>
  ob (allM (fun o => o) [aLoad (.some 4) H t4]) fun vs => some (resV vs, H)) (pEql t9 (.str [100, 111, 116]) H fun t107 H =>
  onBool t107 (pO (aNil t0) H fun t109 H =>
  pFa 0 t109 H fun t110 H =>
  ldK .none H t110 fun t111 H =>
  pO (aNil t111) H fun t112 H =>
  pFa 0 t112 H fun t113 H =>
  ldK (.some 4) H t113 fun t114 H =>
  pFa 3 t3 H fun t116 H =>
  ldK .none H t116 fun t117 H =>
  pIa 4 t117 (.int .i64 (.ofNat 0)) H fun t118 H =>
  ldK (.some 4) H t118 fun t119 H =>
  ldK (.some 4) H t3 fun t124 H =>
  pC call 335 [t0, t119] H fun t120 H =>
  andR (andB (ckV (aLoad .none H t110) t111) (andB (ckV (aLoad (.some 4) H t113) t114) (andB (ckV (aLoad (.some 4) H t3) t124) true))) (
  pO (aFld 1 .none t120) H fun t121 H =>
  pC call 403 [t114, t121] H fun t122 H =>
  andR (andB (ckV (aLoad (.some 4) H t3) t124) true) (
  pC call 326 [t0, t124] H fun t125 H =>
  pIa 4 t122 t125 H fun t126 H =>
  pFa 3 t126 H fun t127 H =>
  ldK .none H t127 fun t128 H =>
  pIa 4 t128 (.int .i64 (.ofNat 0)) H fun t129 H =>
  ldK (.some 4) H t129 fun t130 H =>
  stK 4 H t4 t130 fun _ H =>
  ob (allM (fun o => o) [aLoad (.some 4) H t4]) fun vs => some (resV vs, H)))) (ldK (.some 4) H t3 fun t131 H =>
  pC call 402 [t131] H fun t132 H =>
  stK 4 H t4 t132 fun _ H =>
  ob (allM (fun o => o) [aLoad (.some 4) H t4]) fun vs => some (resV vs, H)))
noncomputable def S335_1 (call : CallFn) (t0 t3 t4 t9 t18 : AV) (H : AHeap) : R :=
  onBool t18 (pFa 3 t3 H fun t21 H =>
  ldK .none H t21 fun t22 H =>
  pIa 4 t22 (.int .i64 (.ofNat 0)) H fun t23 H =>
  ldK (.some 4) H t23 fun t24 H =>
  stK 4 H t4 t24 fun _ H =>
  ob (allM (fun o => o) [aLoad (.some 4) H t4]) fun vs => some (resV vs, H)) (pEql t9 (.str [110, 101, 119]) H fun t26 H =>
  onBool t26 (pFa 1 t3 H fun t27 H =>
  ldK .none H t27 fun t28 H =>
  pO (someAgg (aFill [(.str []), (.str []), (.int .i64 (.ofNat 0)), .nilsl] [(0, 1, (.str [110, 97, 109, 101, 100])), (1, 1, t28)])) H fun t29 H =>
  stK 4 H t4 t29 fun _ H =>
  ob (allM (fun o => o) [aLoad (.some 4) H t4]) fun vs => some (resV vs, H)) (pEql t9 (.str [110, 97, 109, 101]) H fun t31 H =>
  onBool t31 (pFa 1 t3 H fun t34 H =>
  ldK .none H t34 fun t35 H =>
  pC call 330 [t0, t35] H fun t36 H =>
  pExt t36 0 H fun t37 H =>
  pExt t36 1 H fun t38 H =>
  pNew [(.str []), (.str []), (.str []), (.int .i64 (.ofNat 0)), .nilsl, (.int .i64 (.ofNat 0))] H fun t5 H =>
  stK 6 H t5 t37 fun _ H =>
  onBool t38 (pFa 1 t5 H fun t40 H =>
  ldK (.some 4) H t40 fun t41 H =>
  stK 4 H t4 t41 fun _ H =>
  ob (allM (fun o => o) [aLoad (.some 4) H t4]) fun vs => some (resV vs, H)) (pO (aNil t0) H fun t43 H =>
  pFa 0 t43 H fun t44 H =>
  ldK .none H t44 fun t45 H =>
  pFa 1 t3 H fun t46 H =>
  ldK .none H t46 fun t47 H =>
  pC call 331 [t45, (.str [103, 108, 111, 98, 97, 108]), t47] H fun t48 H =>
  pGeq t48 (.int .i64 (.ofNat 0)) H fun t50 H =>
  onBool t50 (pO (aNil t0) H fun t52 H =>
  pFa 0 t52 H fun t53 H =>
  ldK .none H t53 fun t54 H =>
  pC call 28 [t54, (.str [103, 108, 111, 98, 97, 108])] H fun t55 H =>
  pIa 4 t55 t48 H fun t57 H =>
  pFa 3 t57 H fun t58 H =>
  ldK .none H t58 fun t59 H =>
  pIa 4 t59 (.int .i64 (.ofNat 0)) H fun t60 H =>
  ldK (.some 4) H t60 fun t61 H =>
  stK 4 H t4 t61 fun _ H =>
  ob (allM (fun o => o) [aLoad (.some 4) H t4]) fun vs => some (resV vs, H)) (pO (aNil t0) H fun t63 H =>
  pFa 0 t63 H fun t64 H =>
  ldK .none H t64 fun t65 H =>
  pO (aNil t0) H fun t68 H =>
  pFa 0 t68 H fun t69 H =>
  ldK .none H t69 fun t70 H =>
  pFa 1 t3 H fun t71 H =>
  ldK .none H t71 fun t72 H =>
  pC call 28 [t65, (.str [102, 117, 110, 99])] H fun t66 H =>
  andR (andB (ckV (aLoad .none H t69) t70) (andB (ckV (aLoad .none H t71) t72) true)) (
  pC call 331 [t70, (.str [102, 117, 110, 99]), t72] H fun t73 H =>
  pIa 4 t66 t73 H fun t74 H =>
  ldK (.some 4) H t74 fun t75 H =>
  pC call 402 [t75] H fun t76 H =>
  stK 4 H t4 t76 fun _ H =>
  ob (allM (fun o => o) [aLoad (.some 4) H t4]) fun vs => some (resV vs, H))))) (pEql t9 (.str [117, 110, 97, 114, 121]) H fun t78 H =>
  onBool t78 (pFa 3 t3 H fun t80 H =>
  ldK .none H t80 fun t81 H =>
  pIa 4 t81 (.int .i64 (.ofNat 0)) H fun t82 H =>
  ldK (.some 4) H t82 fun t83 H =>
  pC call 335 [t0, t83] H fun t84 H =>
  stK 4 H t4 t84 fun _ H =>
  ob (allM (fun o => o) [aLoad (.some 4) H t4]) fun vs => some (resV vs, H)) (pEql t9 (.str [98, 105, 110, 97, 114, 121]) H fun t86 H =>
  onBool t86 (pN (aBsl 1 10 [(.str [])] [(0, 1, (.str [43])), (1, 1, (.str [45])), (2, 1, (.str [42])), (3, 1, (.str [47])), (4, 1, (.str [37])), (5, 1, (.str [38])), (6, 1, (.str [124])), (7, 1, (.str [94])), (8, 1, (.str [60, 60])), (9, 1, (.str [62, 62]))]) H fun t87 H =>
  pFa 1 t3 H fun t88 H =>
  ldK .none H t88 fun t89 H =>
  pC call 191 [t87, t89] H fun t90 H =>
  onBool t90 (pO (someAgg (aFill [(.str []), (.str []), (.int .i64 (.ofNat 0)), .nilsl] [(0, 1, (.str [105, 110, 116]))])) H fun t91 H =>
  stK 4 H t4 t91 fun _ H =>
  ob (allM (fun o => o) [aLoad (.some 4) H t4]) fun vs => some (resV vs, H)) (pO (someAgg (aFill [(.str []), (.str []), (.int .i64 (.ofNat 0)), .nilsl] [(0, 1, (.str [98, 111, 111, 108]))])) H fun t92 H =>
  stK 4 H t4 t92 fun _ H =>
  ob (allM (fun o => o) [aLoad (.some 4) H t4]) fun vs => some (resV vs, H))) (pEql t9 (.str [99, 97, 108, 108]) H fun t94 H =>
  onBool t94 (S335_0 call t0 t3 t4 t9 t94 H) (pEql t9 (.str [105, 110, 100, 101, 120]) H fun t95 H =>
  onBool t95 (S335_0 call t0 t3 t4 t9 t95 H) (pEql t9 (.str [114, 101, 99, 118]) H fun t96 H =>
  S335_0 call t0 t3 t4 t9 t96 H)))))))
noncomputable def S335_2 (call : CallFn) (t0 t3 t4 t9 t14 : AV) (H : AHeap) : R :=
  onBool t14 (pO (someAgg (aFill [(.str []), (.str []), (.int .i64 (.ofNat 0)), .nilsl] [(0, 1, (.str [98, 111, 111, 108]))])) H fun t17 H =>
  stK 4 H t4 t17 fun _ H =>
  ob (allM (fun o => o) [aLoad (.some 4) H t4]) fun vs => some (resV vs, H)) (pEql t9 (.str [110, 105, 108]) H fun t19 H =>
  onBool t19 (S335_1 call t0 t3 t4 t9 t19 H) (pEql t9 (.str [109, 97, 107, 101]) H fun t20 H =>
  S335_1 call t0 t3 t4 t9 t20 H))
noncomputable def S335_3 (call : CallFn) (t0 t3 t4 t9 t10 : AV) (H : AHeap) : R :=
  onBool t10 (pO (someAgg (aFill [(.str []), (.str []), (.int .i64 (.ofNat 0)), .nilsl] [(0, 1, (.str [105, 110, 116]))])) H fun t13 H =>
  stK 4 H t4 t13 fun _ H =>
  ob (allM (fun o => o) [aLoad (.some 4) H t4]) fun vs => some (resV vs, H)) (pEql t9 (.str [116, 114, 117, 101]) H fun t15 H =>
  onBool t15 (S335_2 call t0 t3 t4 t9 t15 H) (pEql t9 (.str [102, 97, 108, 115, 101]) H fun t16 H =>
  S335_2 call t0 t3 t4 t9 t16 H))
noncomputable def S335_4 (call : CallFn) (t0 t1 : AV) (H : AHeap) : R :=
  pBox t1 H fun t3 H =>
  pNew [(.str []), (.str []), (.int .i64 (.ofNat 0)), .nilsl] H fun t4 H =>
  pFa 0 t3 H fun t8 H =>
  ldK .none H t8 fun t9 H =>
  pEql t9 (.str [110, 117, 109, 98, 101, 114]) H fun t11 H =>
  onBool t11 (S335_3 call t0 t3 t4 t9 t11 H) (pEql t9 (.str [108, 101, 110]) H fun t12 H =>
  S335_3 call t0 t3 t4 t9 t12 H)
noncomputable def S335 : Ff := ⟨fun call l H => argA2 (fun t0 t1 => S335_4 call t0 t1 H) l⟩
/- gantline/live.given -/
noncomputable def S340_0 (call : CallFn) (t0 : AV) (H : AHeap) : R :=
  pC call 153 [t0, (.fn 417 [] [])] H fun t4 H =>
  some (t4, H)
noncomputable def S340 : Ff := ⟨fun call l H => argA1 (fun t0 => S340_0 call t0 H) l⟩
/- slices.pdqsortOrdered[int] -/
noncomputable def S342_1 (call : CallFn) (q0 : AV → AV → AV → AV → AV → AV → AHeap → R) (t0 t1 t2 t3 t8 t9 t10 t11 t75 t86 : AV) (H : AHeap) : R :=
  pPick t75 t86 (.bool false) H fun t87 H =>
  onBool t87 (pC call 425 [t0, t1, t2, t11] H fun t92 H =>
  q0 t0 t92 t2 t3 t8 t9 H) (pC call 426 [t0, t1, t2, t11] H fun t99 H =>
  pExt t99 0 H fun t100 H =>
  pExt t99 1 H fun t101 H =>
  pSub t100 t1 H fun t105 H =>
  pSub t2 t100 H fun t108 H =>
  pO (aBin .quo t10 (.int .i64 (.ofNat 8))) H fun t110 H =>
  pLss t105 t108 H fun t113 H =>
  onBool t113 (pGeq t105 t110 H fun t116 H =>
  pC call 342 [t0, t1, t100, t3] H fun _ H =>
  pAdd t100 (.int .i64 (.ofNat 1)) H fun t123 H =>
  q0 t0 t123 t2 t3 t116 t101 H) (pGeq t108 t110 H fun t126 H =>
  pAdd t100 (.int .i64 (.ofNat 1)) H fun t129 H =>
  pC call 342 [t0, t129, t2, t3] H fun _ H =>
  q0 t0 t1 t100 t3 t126 t101 H))
noncomputable def S342_2 (call : CallFn) (q0 : AV → AV → AV → AV → AV → AV → AHeap → R) (t0 t1 t2 t3 t8 t9 t10 t11 t75 t85 : AV) (H : AHeap) : R :=
  guardA t75 true (pO (aUn .not t85) H fun t86 H =>
  S342_1 call q0 t0 t1 t2 t3 t8 t9 t10 t11 t75 t86 H) (S342_1 call q0 t0 t1 t2 t3 t8 t9 t10 t11 t75 U H)
noncomputable def S342_3 (call : CallFn) (q0 : AV → AV → AV → AV → AV → AV → AHeap → R) (t0 t1 t2 t3 t8 t9 t10 t11 t75 t80 t84 : AV) (H : AHeap) : R :=
  guardA t75 true (pC call 424 [t80, t84] H fun t85 H =>
  S342_2 call q0 t0 t1 t2 t3 t8 t9 t10 t11 t75 t85 H) (S342_2 call q0 t0 t1 t2 t3 t8 t9 t10 t11 t75 U H)
noncomputable def S342_4 (call : CallFn) (q0 : AV → AV → AV → AV → AV → AV → AHeap → R) (t0 t1 t2 t3 t8 t9 t10 t11 t75 t80 t83 : AV) (H : AHeap) : R :=
  guardA t75 true (ldK .none H t83 fun t84 H =>
  S342_3 call q0 t0 t1 t2 t3 t8 t9 t10 t11 t75 t80 t84 H) (S342_3 call q0 t0 t1 t2 t3 t8 t9 t10 t11 t75 t80 U H)
noncomputable def S342_5 (call : CallFn) (q0 : AV → AV → AV → AV → AV → AV → AHeap → R) (t0 t1 t2 t3 t8 t9 t10 t11 t75 t80 t81 t82 : AV) (H : AHeap) : R :=
  guardA t75 true (pIa 1 t81 t82 H fun t83 H =>
  S342_4 call q0 t0 t1 t2 t3 t8 t9 t10 t11 t75 t80 t83 H) (S342_4 call q0 t0 t1 t2 t3 t8 t9 t10 t11 t75 t80 U H)
noncomputable def S342_6 (call : CallFn) (q0 : AV → AV → AV → AV → AV → AV → AHeap → R) (t0 t1 t2 t3 t8 t9 t10 t11 t75 t80 t81 : AV) (H : AHeap) : R :=
  guardA t75 true (S342_5 call q0 t0 t1 t2 t3 t8 t9 t10 t11 t75 t80 t81 t11 H) (S342_5 call q0 t0 t1 t2 t3 t8 t9 t10 t11 t75 t80 t81 U H)
noncomputable def S342_7 (call : CallFn) (q0 : AV → AV → AV → AV → AV → AV → AHeap → R) (t0 t1 t2 t3 t8 t9 t10 t11 t75 t80 : AV) (H : AHeap) : R :=
  guardA t75 true (S342_6 call q0 t0 t1 t2 t3 t8 t9 t10 t11 t75 t80 t0 H) (S342_6 call q0 t0 t1 t2 t3 t8 t9 t10 t11 t75 t80 U H)
noncomputable def S342_8 (call : CallFn) (q0 : AV → AV → AV → AV → AV → AV → AHeap → R) (t0 t1 t2 t3 t8 t9 t10 t11 t75 t79 : AV) (H : AHeap) : R :=
  guardA t75 true (ldK .none H t79 fun t80 H =>
  S342_7 call q0 t0 t1 t2 t3 t8 t9 t10 t11 t75 t80 H) (S342_7 call q0 t0 t1 t2 t3 t8 t9 t10 t11 t75 U H)
noncomputable def S342_9 (call : CallFn) (q0 : AV → AV → AV → AV → AV → AV → AHeap → R) (t0 t1 t2 t3 t8 t9 t10 t11 t75 t76 t78 : AV) (H : AHeap) : R :=
  guardA t75 true (pIa 1 t76 t78 H fun t79 H =>
  S342_8 call q0 t0 t1 t2 t3 t8 t9 t10 t11 t75 t79 H) (S342_8 call q0 t0 t1 t2 t3 t8 t9 t10 t11 t75 U H)
noncomputable def S342_10 (call : CallFn) (q0 : AV → AV → AV → AV → AV → AV → AHeap → R) (t0 t1 t2 t3 t8 t9 t10 t11 t75 t76 t77 : AV) (H : AHeap) : R :=
  guardA t75 true (pSub t77 (.int .i64 (.ofNat 1)) H fun t78 H =>
  S342_9 call q0 t0 t1 t2 t3 t8 t9 t10 t11 t75 t76 t78 H) (S342_9 call q0 t0 t1 t2 t3 t8 t9 t10 t11 t75 t76 U H)
noncomputable def S342_11 (call : CallFn) (q0 : AV → AV → AV → AV → AV → AV → AHeap → R) (t0 t1 t2 t3 t8 t9 t10 t11 t75 t76 : AV) (H : AHeap) : R :=
  guardA t75 true (S342_10 call q0 t0 t1 t2 t3 t8 t9 t10 t11 t75 t76 t1 H) (S342_10 call q0 t0 t1 t2 t3 t8 t9 t10 t11 t75 t76 U H)
noncomputable def S342_12 (call : CallFn) (q0 : AV → AV → AV → AV → AV → AV → AHeap → R) (t0 t1 t2 t3 t8 t9 t10 t11 : AV) (H : AHeap) : R :=
  pGtr t1 (.int .i64 (.ofNat 0)) H fun t74 H =>
  guardA t74 true (S342_11 call q0 t0 t1 t2 t3 t8 t9 t10 t11 t74 t0 H) (S342_11 call q0 t0 t1 t2 t3 t8 t9 t10 t11 t74 U H)
noncomputable def S342_13 (call : CallFn) (q0 : AV → AV → AV → AV → AV → AV → AHeap → R) (t0 t1 t2 t3 t8 t9 t10 t11 t65 t67 : AV) (H : AHeap) : R :=
  pPick t65 t67 (.bool false) H fun t68 H =>
  onBool t68 (pC call 423 [t0, t1, t2] H fun t72 H =>
  onBool t72 (some (.tup [], H)) (S342_12 call q0 t0 t1 t2 t3 t8 t9 t10 t11 H)) (S342_12 call q0 t0 t1 t2 t3 t8 t9 t10 t11 H)
noncomputable def S342_14 (call : CallFn) (q0 : AV → AV → AV → AV → AV → AV → AHeap → R) (t0 t1 t2 t3 t8 t9 t10 t11 t12 t62 t63 : AV) (H : AHeap) : R :=
  pPick t62 t63 (.bool false) H fun t64 H =>
  guardA t64 true (pEql t12 (.int .i64 (.ofNat 1)) H fun t67 H =>
  S342_13 call q0 t0 t1 t2 t3 t8 t9 t10 t11 t64 t67 H) (S342_13 call q0 t0 t1 t2 t3 t8 t9 t10 t11 t64 U H)
noncomputable def S342_15 (call : CallFn) (q0 : AV → AV → AV → AV → AV → AV → AHeap → R) (t0 t1 t2 t3 t8 t9 t10 t11 t12 : AV) (H : AHeap) : R :=
  guardA t8 true (S342_14 call q0 t0 t1 t2 t3 t8 t9 t10 t11 t12 t8 t9 H) (S342_14 call q0 t0 t1 t2 t3 t8 t9 t10 t11 t12 t8 U H)
noncomputable def S342_16 (call : CallFn) (q0 : AV → AV → AV → AV → AV → AV → AHeap → R) (t0 t1 t2 t3 t8 t9 t10 : AV) (H : AHeap) : R :=
  pC call 421 [t0, t1, t2] H fun t46 H =>
  pExt t46 0 H fun t47 H =>
  pExt t46 1 H fun t48 H =>
  pEql t48 (.int .i64 (.ofNat 2)) H fun t50 H =>
  onBool t50 (pC call 422 [t0, t1, t2] H fun _ H =>
  pSub t2 (.int .i64 (.ofNat 1)) H fun t56 H =>
  pSub t47 t1 H fun t59 H =>
  pSub t56 t59 H fun t60 H =>
  S342_15 call q0 t0 t1 t2 t3 t8 t9 t10 t60 (.int .i64 (.ofNat 1)) H) (S342_15 call q0 t0 t1 t2 t3 t8 t9 t10 t47 t48 H)
noncomputable def S342_0 (call : CallFn) (n : Nat) : AV → AV → AV → AV → AV → AV → AHeap → R :=
  Nat.rec (motive := fun _ => AV → AV → AV → AV → AV → AV → AHeap → R) (fun _ _ _ _ _ _ _ => none) (fun _ q0 t0 t1 t2 t3 t8 t9 H => pSub t2 t1 H fun t21 H =>
  pLeq t21 (.int .i64 (.ofNat 12)) H fun t23 H =>
  onBool t23 (pC call 418 [t0, t1, t2] H fun _ H =>
  some (.tup [], H)) (pEql t3 (.int .i64 (.ofNat 0)) H fun t29 H =>
  onBool t29 (pC call 419 [t0, t1, t2] H fun _ H =>
  some (.tup [], H)) (pO (aUn .not t8) H fun t35 H =>
  onBool t35 (pC call 420 [t0, t1, t2] H fun _ H =>
  pSub t3 (.int .i64 (.ofNat 1)) H fun t41 H =>
  S342_16 call q0 t0 t1 t2 t41 t8 t9 t21 H) (S342_16 call q0 t0 t1 t2 t3 t8 t9 t21 H)))) n
noncomputable def S342 : Ff := ⟨fun call l H => argA4 (fun t0 t1 t2 t3 => S342_0 call 1000000 t0 t1 t2 t3 (.bool true) (.bool true) H) l⟩
/- math/bits.Len -/
noncomputable def S343_0 (call : CallFn) (t0 : AV) (H : AHeap) : R :=
  onBool (.bool false) (pConv .u32 t0 H fun t4 H =>
  pC call 427 [t4] H fun t5 H =>
  some (t5, H)) (pC call 428 [t0] H fun t7 H =>
  some (t7, H))
noncomputable def S343 : Ff := ⟨fun call l H => argA1 (fun t0 => S343_0 call t0 H) l⟩
/- (*gantline/frame.Stack).Set -/
noncomputable def S361_0 (_ : CallFn) (t1 t2 t6 t15 t22 : AV) (H : AHeap) : R :=
  pPick t15 t22 (.bool false) H fun t23 H =>
  onBool t23 (pO (aNil t6) H fun t25 H =>
  pFa 2 t25 H fun t26 H =>
  ldK .none H t26 fun t27 H =>
  pIa 1 t27 t1 H fun t30 H =>
  stK 1 H t30 t2 fun _ H =>
  some (.tup [], H)) (some (.tup [], H))
noncomputable def S361_1 (call : CallFn) (t1 t2 t6 t11 t13 : AV) (H : AHeap) : R :=
  pPick t11 t13 (.bool false) H fun t14 H =>
  guardA t14 true (pO (aNil t6) H fun t18 H =>
  pFa 2 t18 H fun t19 H =>
  ldK .none H t19 fun t20 H =>
  pO (aLen .sl H t20) H fun t21 H =>
  pLss t1 t21 H fun t22 H =>
  S361_0 call t1 t2 t6 t14 t22 H) (S361_0 call t1 t2 t6 t14 U H)
noncomputable def S361_2 (call : CallFn) (t0 t1 t2 : AV) (H : AHeap) : R :=
  pC call 165 [t0] H fun t8 H =>
  pO (aEq true .ptr t8 .nilp) H fun t10 H =>
  guardA t10 true (pGeq t1 (.int .i64 (.ofNat 0)) H fun t13 H =>
  S361_1 call t1 t2 t8 t10 t13 H) (S361_1 call t1 t2 t8 t10 U H)
noncomputable def S361 : Ff := ⟨fun call l H => argA3 (fun t0 t1 t2 => S361_2 call t0 t1 t2 H) l⟩
/- (*gantline/frame.Stack).Return -/
noncomputable def S372_0 (_ : CallFn) (t0 : AV) (H : AHeap) : R :=
  pO (aNil t0) H fun t24 H =>
  pFa 0 t24 H fun t25 H =>
  ldK .none H t25 fun t26 H =>
  pO (aLen .sl H t26) H fun t27 H =>
  pGtr t27 (.int .i64 (.ofNat 0)) H fun t28 H =>
  some (t28, H)
noncomputable def S372_1 (call : CallFn) (t0 : AV) (H : AHeap) : R :=
  pO (aNil t0) H fun t4 H =>
  pFa 0 t4 H fun t5 H =>
  ldK .none H t5 fun t6 H =>
  pO (aLen .sl H t6) H fun t7 H =>
  pGtr t7 (.int .i64 (.ofNat 0)) H fun t8 H =>
  onBool t8 (pO (aNil t0) H fun t11 H =>
  pFa 0 t11 H fun t12 H =>
  ldK .none H t12 fun t13 H =>
  pO (aNil t0) H fun t15 H =>
  pFa 0 t15 H fun t16 H =>
  ldK .none H t16 fun t17 H =>
  pO (aLen .sl H t17) H fun t18 H =>
  pSub t18 (.int .i64 (.ofNat 1)) H fun t19 H =>
  pO (aSlice 3 H t13 .none (.some t19) .none) H fun t20 H =>
  pO (aNil t0) H fun t21 H =>
  pFa 0 t21 H fun t22 H =>
  stK 1 H t22 t20 fun _ H =>
  S372_0 call t0 H) (S372_0 call t0 H)
noncomputable def S372 : Ff := ⟨fun call l H => argA1 (fun t0 => S372_1 call t0 H) l⟩
/- (*gantline/sched.Table).Drop -/
noncomputable def S373_0 (_ : CallFn) (t0 t1 : AV) (H : AHeap) : R :=
  pO (aNil t0) H fun t5 H =>
  pFa 6 t5 H fun t6 H =>
  ldK .none H t6 fun t7 H =>
  pW (unitW (aDelete .int H t7 t1)) fun _ H =>
  some (.tup [], H)
noncomputable def S373 : Ff := ⟨fun call l H => argA2 (fun t0 t1 => S373_0 call t0 t1 H) l⟩
/- (*gantline/cycle.Cycle).Dies -/
noncomputable def S374_0 (_ : CallFn) (t0 t1 : AV) (H : AHeap) : R :=
  pO (aNil t0) H fun t5 H =>
  pFa 5 t5 H fun t6 H =>
  ldK .none H t6 fun t7 H =>
  pW (unitW (aDelete .int H t7 t1)) fun _ H =>
  some (.tup [], H)
noncomputable def S374 : Ff := ⟨fun call l H => argA2 (fun t0 t1 => S374_0 call t0 t1 H) l⟩
/- (*gantline/verify.checker).is$1 -/
noncomputable def S393_0 (_ : CallFn) (t0 t1 t2 : AV) (H : AHeap) : R :=
  ldK .none H t1 fun t5 H =>
  pO (aNil t5) H fun t6 H =>
  pFa 6 t6 H fun t7 H =>
  pFa 4 t7 H fun t8 H =>
  ldK .none H t8 fun t9 H =>
  pIa 1 t9 t0 H fun t11 H =>
  ldK .none H t11 fun t12 H =>
  ldK .none H t2 fun t13 H =>
  pO (aEq true .bool t12 t13) H fun t14 H =>
  some (t14, H)
noncomputable def S393 : Ff := ⟨fun call l H => argA3 (fun t0 t1 t2 => S393_0 call t0 t1 t2 H) l⟩
/- (*gantline/parse.parser).expr -/
noncomputable def S398_0 (call : CallFn) (t0 : AV) (H : AHeap) : R :=
  pNew [(.str []), (.str []), (.int .i64 (.ofNat 0)), .nilsl] H fun t2 H =>
  pO (aNil t0) H fun t5 H =>
  pFa 0 t5 H fun t6 H =>
  ldK .none H t6 fun t7 H =>
  pO (aLen .sl H t7) H fun t8 H =>
  pN (aBsl 1 1 [(.str [])] [(0, 1, (.str [124, 124]))]) H fun t11 H =>
  pC call 441 [t0, t8, (.fn 442 [t0] []), t11] H fun t12 H =>
  stK 4 H t2 t12 fun _ H =>
  ob (allM (fun o => o) [aLoad (.some 4) H t2]) fun vs => some (resV vs, H)
noncomputable def S398 : Ff := ⟨fun call l H => argA1 (fun t0 => S398_0 call t0 H) l⟩
/- (*gantline/parse.parser).simple -/
noncomputable def S401_0 (call : CallFn) (t0 t2 t3 : AV) (H : AHeap) : R :=
  pC call 125 [t0, (.str [59])] H fun _ H =>
  ldK (.some 4) H t3 fun t27 H =>
  stK 4 H t2 t27 fun _ H =>
  ob (allM (fun o => o) [aLoad (.some 4) H t2]) fun vs => some (resV vs, H)
noncomputable def S401_1 (call : CallFn) (t0 : AV) (H : AHeap) : R :=
  pNew [(.str []), (.str []), (.int .i64 (.ofNat 0)), .nilsl] H fun t2 H =>
  pC call 61 [t0, (.str [100, 111])] H fun t5 H =>
  pNew [(.str []), (.str []), (.int .i64 (.ofNat 0)), .nilsl] H fun t3 H =>
  stK 4 H t3 t5 fun _ H =>
  pC call 398 [t0] H fun t7 H =>
  pN (aBsl 4 1 [(.str []), (.str []), (.int .i64 (.ofNat 0)), .nilsl] [(0, 4, t7)]) H fun t8 H =>
  pFa 3 t3 H fun t9 H =>
  stK 1 H t9 t8 fun _ H =>
  pN (aBsl 1 1 [(.str [])] [(0, 1, (.str [61]))]) H fun t11 H =>
  pC call 126 [t0, t11] H fun t12 H =>
  onBool t12 (pC call 190 [t0] H fun t14 H =>
  pO (aFld 2 .none t14) H fun t15 H =>
  pFa 0 t3 H fun t16 H =>
  stK 1 H t16 (.str [115, 101, 116]) fun _ H =>
  pFa 2 t3 H fun t17 H =>
  stK 1 H t17 t15 fun _ H =>
  pFa 3 t3 H fun t18 H =>
  ldK .none H t18 fun t19 H =>
  pC call 398 [t0] H fun t21 H =>
  andR (andB (ckV (aLoad .none H t18) t19) true) (
  pN (aBsl 4 1 [(.str []), (.str []), (.int .i64 (.ofNat 0)), .nilsl] [(0, 4, t21)]) H fun t22 H =>
  pW (aApp 4 64 H t19 t22) fun t23 H =>
  pFa 3 t3 H fun t24 H =>
  stK 1 H t24 t23 fun _ H =>
  S401_0 call t0 t2 t3 H)) (S401_0 call t0 t2 t3 H)
noncomputable def S401 : Ff := ⟨fun call l H => argA1 (fun t0 => S401_1 call t0 H) l⟩
/- slices.Index[[]int64,int64] -/
noncomputable def S406_0 (_ : CallFn) (n : Nat) : AV → AV → AV → AV → AHeap → R :=
  Nat.rec (motive := fun _ => AV → AV → AV → AV → AHeap → R) (fun _ _ _ _ _ => none) (fun _ q0 t0 t1 t7 t8 H => pLss t8 t7 H fun t9 H =>
  onBool t9 (pIa 1 t0 t8 H fun t14 H =>
  ldK .none H t14 fun t15 H =>
  pEql t1 t15 H fun t16 H =>
  onBool t16 (some (t8, H)) (pAdd t8 (.int .i64 (.ofNat 1)) H fun t18 H =>
  q0 t0 t1 t7 t18 H)) (some ((.int .i64 (.negSucc 0)), H))) n
noncomputable def S406_1 (call : CallFn) (t0 t1 : AV) (H : AHeap) : R :=
  pO (aLen .sl H t0) H fun t7 H =>
  S406_0 call 1000000 t0 t1 t7 (.int .i64 (.ofNat 0)) H
noncomputable def S406 : Ff := ⟨fun call l H => argA2 (fun t0 t1 => S406_1 call t0 t1 H) l⟩
/- strconv.ParseInt -/
noncomputable def S407_0 (call : CallFn) (t0 t1 t2 : AV) (H : AHeap) : R :=
  pC call 445 [t0, t1, t2] H fun t13 H =>
  pExt t13 0 H fun t14 H =>
  pExt t13 1 H fun t15 H =>
  pO (aEq true .ifc t15 .nilif) H fun t17 H =>
  onBool t17 (pC call 189 [(.str [80, 97, 114, 115, 101, 73, 110, 116]), t0, t1, t2, t15] H fun t23 H =>
  some (.tup [t14, t23], H)) (some (.tup [t14, .nilif], H))
noncomputable def S407 : Ff := ⟨fun call l H => argA3 (fun t0 t1 t2 => S407_0 call t0 t1 t2 H) l⟩
/- gantline/live.given$1 -/
noncomputable def S417_0 (_ : CallFn) (t0 : AV) (H : AHeap) : R :=
  pEql t0 (.int .i64 (.negSucc 0)) H fun t4 H =>
  some (t4, H)
noncomputable def S417 : Ff := ⟨fun call l H => argA1 (fun t0 => S417_0 call t0 H) l⟩
/- slices.insertionSortOrdered[int] -/
noncomputable def S418_1 (_ : CallFn) (q0 : AV → AV → AV → AV → AHeap → R) (t0 t1 t2 t6 : AV) (H : AHeap) : R :=
  pAdd t6 (.int .i64 (.ofNat 1)) H fun t14 H =>
  q0 t0 t1 t2 t14 H
noncomputable def S418_3 (call : CallFn) (q0 : AV → AV → AV → AV → AHeap → R) (q1 : AV → AV → AV → AV → AV → AHeap → R) (t0 t1 t2 t6 t7 t19 t29 : AV) (H : AHeap) : R :=
  pPick t19 t29 (.bool false) H fun t30 H =>
  onBool t30 (pSub t7 (.int .i64 (.ofNat 1)) H fun t37 H =>
  pSub t7 (.int .i64 (.ofNat 1)) H fun t40 H =>
  pIa 1 t0 t40 H fun t41 H =>
  ldK .none H t41 fun t42 H =>
  pIa 1 t0 t7 H fun t45 H =>
  ldK .none H t45 fun t46 H =>
  pIa 1 t0 t7 H fun t47 H =>
  stK 1 H t47 t42 fun _ H =>
  pIa 1 t0 t37 H fun t48 H =>
  stK 1 H t48 t46 fun _ H =>
  pSub t7 (.int .i64 (.ofNat 1)) H fun t32 H =>
  q1 t0 t1 t2 t6 t32 H) (S418_1 call q0 t0 t1 t2 t6 H)
noncomputable def S418_4 (call : CallFn) (q0 : AV → AV → AV → AV → AHeap → R) (q1 : AV → AV → AV → AV → AV → AHeap → R) (t0 t1 t2 t6 t7 t19 t23 t28 : AV) (H : AHeap) : R :=
  guardA t19 true (pC call 424 [t23, t28] H fun t29 H =>
  S418_3 call q0 q1 t0 t1 t2 t6 t7 t19 t29 H) (S418_3 call q0 q1 t0 t1 t2 t6 t7 t19 U H)
noncomputable def S418_5 (call : CallFn) (q0 : AV → AV → AV → AV → AHeap → R) (q1 : AV → AV → AV → AV → AV → AHeap → R) (t0 t1 t2 t6 t7 t19 t23 t27 : AV) (H : AHeap) : R :=
  guardA t19 true (ldK .none H t27 fun t28 H =>
  S418_4 call q0 q1 t0 t1 t2 t6 t7 t19 t23 t28 H) (S418_4 call q0 q1 t0 t1 t2 t6 t7 t19 t23 U H)
noncomputable def S418_6 (call : CallFn) (q0 : AV → AV → AV → AV → AHeap → R) (q1 : AV → AV → AV → AV → AV → AHeap → R) (t0 t1 t2 t6 t7 t19 t23 t24 t26 : AV) (H : AHeap) : R :=
  guardA t19 true (pIa 1 t24 t26 H fun t27 H =>
  S418_5 call q0 q1 t0 t1 t2 t6 t7 t19 t23 t27 H) (S418_5 call q0 q1 t0 t1 t2 t6 t7 t19 t23 U H)
noncomputable def S418_7 (call : CallFn) (q0 : AV → AV → AV → AV → AHeap → R) (q1 : AV → AV → AV → AV → AV → AHeap → R) (t0 t1 t2 t6 t7 t19 t23 t24 t25 : AV) (H : AHeap) : R :=
  guardA t19 true (pSub t25 (.int .i64 (.ofNat 1)) H fun t26 H =>
  S418_6 call q0 q1 t0 t1 t2 t6 t7 t19 t23 t24 t26 H) (S418_6 call q0 q1 t0 t1 t2 t6 t7 t19 t23 t24 U H)
noncomputable def S418_8 (call : CallFn) (q0 : AV → AV → AV → AV → AHeap → R) (q1 : AV → AV → AV → AV → AV → AHeap → R) (t0 t1 t2 t6 t7 t19 t23 t24 : AV) (H : AHeap) : R :=
  guardA t19 true (S418_7 call q0 q1 t0 t1 t2 t6 t7 t19 t23 t24 t7 H) (S418_7 call q0 q1 t0 t1 t2 t6 t7 t19 t23 t24 U H)
noncomputable def S418_9 (call : CallFn) (q0 : AV → AV → AV → AV → AHeap → R) (q1 : AV → AV → AV → AV → AV → AHeap → R) (t0 t1 t2 t6 t7 t19 t23 : AV) (H : AHeap) : R :=
  guardA t19 true (S418_8 call q0 q1 t0 t1 t2 t6 t7 t19 t23 t0 H) (S418_8 call q0 q1 t0 t1 t2 t6 t7 t19 t23 U H)
noncomputable def S418_10 (call : CallFn) (q0 : AV → AV → AV → AV → AHeap → R) (q1 : AV → AV → AV → AV → AV → AHeap → R) (t0 t1 t2 t6 t7 t19 t22 : AV) (H : AHeap) : R :=
  guardA t19 true (ldK .none H t22 fun t23 H =>
  S418_9 call q0 q1 t0 t1 t2 t6 t7 t19 t23 H) (S418_9 call q0 q1 t0 t1 t2 t6 t7 t19 U H)
noncomputable def S418_11 (call : CallFn) (q0 : AV → AV → AV → AV → AHeap → R) (q1 : AV → AV → AV → AV → AV → AHeap → R) (t0 t1 t2 t6 t7 t19 t20 t21 : AV) (H : AHeap) : R :=
  guardA t19 true (pIa 1 t20 t21 H fun t22 H =>
  S418_10 call q0 q1 t0 t1 t2 t6 t7 t19 t22 H) (S418_10 call q0 q1 t0 t1 t2 t6 t7 t19 U H)
noncomputable def S418_12 (call : CallFn) (q0 : AV → AV → AV → AV → AHeap → R) (q1 : AV → AV → AV → AV → AV → AHeap → R) (t0 t1 t2 t6 t7 t19 t20 : AV) (H : AHeap) : R :=
  guardA t19 true (S418_11 call q0 q1 t0 t1 t2 t6 t7 t19 t20 t7 H) (S418_11 call q0 q1 t0 t1 t2 t6 t7 t19 t20 U H)
noncomputable def S418_2 (call : CallFn) (q0 : AV → AV → AV → AV → AHeap → R) (n : Nat) : AV → AV → AV → AV → AV → AHeap → R :=
  Nat.rec (motive := fun _ => AV → AV → AV → AV → AV → AHeap → R) (fun _ _ _ _ _ _ => none) (fun _ q1 t0 t1 t2 t6 t7 H => pGtr t7 t1 H fun t18 H =>
  guardA t18 true (S418_12 call q0 q1 t0 t1 t2 t6 t7 t18 t0 H) (S418_12 call q0 q1 t0 t1 t2 t6 t7 t18 U H)) n
noncomputable def S418_0 (call : CallFn) (n : Nat) : AV → AV → AV → AV → AHeap → R :=
  Nat.rec (motive := fun _ => AV → AV → AV → AV → AHeap → R) (fun _ _ _ _ _ => none) (fun _ q0 t0 t1 t2 t6 H => pLss t6 t2 H fun t12 H =>
  onBool t12 (S418_2 call q0 1000000 t0 t1 t2 t6 t6 H) (some (.tup [], H))) n
noncomputable def S418_13 (call : CallFn) (t0 t1 t2 : AV) (H : AHeap) : R :=
  pAdd t1 (.int .i64 (.ofNat 1)) H fun t9 H =>
  S418_0 call 1000000 t0 t1 t2 t9 H
noncomputable def S418 : Ff := ⟨fun call l H => argA3 (fun t0 t1 t2 => S418_13 call t0 t1 t2 H) l⟩
/- math/bits.Len64 -/
noncomputable def S428_0 (_ : CallFn) (t0 t2 : AV) (H : AHeap) : R :=
  pConv .u8 t0 H fun t21 H =>
  pO (aIdxS (.str [0, 1, 2, 2, 3, 3, 3, 3, 4, 4, 4, 4, 4, 4, 4, 4, 5, 5, 5, 5, 5, 5, 5, 5, 5, 5, 5, 5, 5, 5, 5, 5, 6, 6, 6, 6, 6, 6, 6, 6, 6, 6, 6, 6, 6, 6, 6, 6, 6, 6, 6, 6, 6, 6, 6, 6, 6, 6, 6, 6, 6, 6, 6, 6, 7, 7, 7, 7, 7, 7, 7, 7, 7, 7, 7, 7, 7, 7, 7, 7, 7, 7, 7, 7, 7, 7, 7, 7, 7, 7, 7, 7, 7, 7, 7, 7, 7, 7, 7, 7, 7, 7, 7, 7, 7, 7, 7, 7, 7, 7, 7, 7, 7, 7, 7, 7, 7, 7, 7, 7, 7, 7, 7, 7, 7, 7, 7, 7, 8, 8, 8, 8, 8, 8, 8, 8, 8, 8, 8, 8, 8, 8, 8, 8, 8, 8, 8, 8, 8, 8, 8, 8, 8, 8, 8, 8, 8, 8, 8, 8, 8, 8, 8, 8, 8, 8, 8, 8, 8, 8, 8, 8, 8, 8, 8, 8, 8, 8, 8, 8, 8, 8, 8, 8, 8, 8, 8, 8, 8, 8, 8, 8, 8, 8, 8, 8, 8, 8, 8, 8, 8, 8, 8, 8, 8, 8, 8, 8, 8, 8, 8, 8, 8, 8, 8, 8, 8, 8, 8, 8, 8, 8, 8, 8, 8, 8, 8, 8, 8, 8, 8, 8, 8, 8, 8, 8, 8, 8, 8, 8, 8, 8, 8, 8, 8, 8, 8, 8, 8, 8, 8, 8, 8, 8, 8, 8]) t21) H fun t22 H =>
  pConv .i64 t22 H fun t23 H =>
  pAdd t2 t23 H fun t24 H =>
  some (t24, H)
noncomputable def S428_1 (call : CallFn) (t0 t2 : AV) (H : AHeap) : R :=
  pGeq t0 (.int .u64 (.ofNat 256)) H fun t14 H =>
  onBool t14 (pO (aBin .shr t0 (.int .u64 (.ofNat 8))) H fun t16 H =>
  pAdd t2 (.int .i64 (.ofNat 8)) H fun t18 H =>
  S428_0 call t16 t18 H) (S428_0 call t0 t2 H)
noncomputable def S428_2 (call : CallFn) (t0 t2 : AV) (H : AHeap) : R :=
  pGeq t0 (.int .u64 (.ofNat 65536)) H fun t8 H =>
  onBool t8 (pO (aBin .shr t0 (.int .u64 (.ofNat 16))) H fun t10 H =>
  pAdd t2 (.int .i64 (.ofNat 16)) H fun t12 H =>
  S428_1 call t10 t12 H) (S428_1 call t0 t2 H)
noncomputable def S428_3 (call : CallFn) (t0 : AV) (H : AHeap) : R :=
  pGeq t0 (.int .u64 (.ofNat 4294967296)) H fun t4 H =>
  onBool t4 (pO (aBin .shr t0 (.int .u64 (.ofNat 32))) H fun t6 H =>
  S428_2 call t6 (.int .i64 (.ofNat 32)) H) (S428_2 call t0 (.int .i64 (.ofNat 0)) H)
noncomputable def S428 : Ff := ⟨fun call l H => argA1 (fun t0 => S428_3 call t0 H) l⟩
/- (*gantline/parse.parser).row -/
noncomputable def S441_0 (_ : CallFn) (t8 t9 : AV) (H : AHeap) : R :=
  ldK (.some 4) H t9 fun t35 H =>
  stK 4 H t8 t35 fun _ H =>
  ob (allM (fun o => o) [aLoad (.some 4) H t8]) fun vs => some (resV vs, H)
noncomputable def S441_2 (call : CallFn) (q0 : AV → AV → AV → AV → AV → AV → AV → AHeap → R) (t0 t1 t2 t3 t8 t9 t10 t17 t20 : AV) (H : AHeap) : R :=
  pPick t17 t20 (.bool false) H fun t21 H =>
  onBool t21 (pC call 190 [t0] H fun t25 H =>
  pNew [(.int .i64 (.ofNat 0)), (.str []), (.int .i64 (.ofNat 0))] H fun t11 H =>
  stK 3 H t11 t25 fun _ H =>
  pFa 1 t11 H fun t26 H =>
  ldK .none H t26 fun t27 H =>
  pFa 2 t11 H fun t28 H =>
  ldK .none H t28 fun t29 H =>
  ldK (.some 4) H t9 fun t30 H =>
  pV call t2 [] H fun t32 H =>
  andR (andB (ckV (aLoad .none H t26) t27) (andB (ckV (aLoad .none H t28) t29) (andB (ckV (aLoad (.some 4) H t9) t30) true))) (
  pN (aBsl 4 2 [(.str []), (.str []), (.int .i64 (.ofNat 0)), .nilsl] [(0, 4, t30), (4, 4, t32)]) H fun t33 H =>
  pO (someAgg (aFill [(.str []), (.str []), (.int .i64 (.ofNat 0)), .nilsl] [(0, 1, (.str [98, 105, 110, 97, 114, 121])), (1, 1, t27), (2, 1, t29), (3, 1, t33)])) H fun t34 H =>
  stK 4 H t9 t34 fun _ H =>
  pAdd t10 (.int .i64 (.ofNat 1)) H fun t23 H =>
  q0 t0 t1 t2 t3 t8 t9 t23 H)) (S441_0 call t8 t9 H)
noncomputable def S441_1 (call : CallFn) (n : Nat) : AV → AV → AV → AV → AV → AV → AV → AHeap → R :=
  Nat.rec (motive := fun _ => AV → AV → AV → AV → AV → AV → AV → AHeap → R) (fun _ _ _ _ _ _ _ _ => none) (fun _ q0 t0 t1 t2 t3 t8 t9 t10 H => pC call 126 [t0, t3] H fun t16 H =>
  guardA t16 true (pLss t10 t1 H fun t20 H =>
  S441_2 call q0 t0 t1 t2 t3 t8 t9 t10 t16 t20 H) (S441_2 call q0 t0 t1 t2 t3 t8 t9 t10 t16 U H)) n
noncomputable def S441_3 (call : CallFn) (t0 t1 t2 t3 : AV) (H : AHeap) : R :=
  pNew [(.str []), (.str []), (.int .i64 (.ofNat 0)), .nilsl] H fun t8 H =>
  pV call t2 [] H fun t13 H =>
  pNew [(.str []), (.str []), (.int .i64 (.ofNat 0)), .nilsl] H fun t9 H =>
  stK 4 H t9 t13 fun _ H =>
  S441_1 call 1000000 t0 t1 t2 t3 t8 t9 (.int .i64 (.ofNat 0)) H
noncomputable def S441 : Ff := ⟨fun call l H => argA4 (fun t0 t1 t2 t3 => S441_3 call t0 t1 t2 t3 H) l⟩
/- (*gantline/parse.parser).and -/
noncomputable def S442_0 (call : CallFn) (t0 : AV) (H : AHeap) : R :=
  pNew [(.str []), (.str []), (.int .i64 (.ofNat 0)), .nilsl] H fun t2 H =>
  pO (aNil t0) H fun t5 H =>
  pFa 0 t5 H fun t6 H =>
  ldK .none H t6 fun t7 H =>
  pO (aLen .sl H t7) H fun t8 H =>
  pN (aBsl 1 1 [(.str [])] [(0, 1, (.str [38, 38]))]) H fun t11 H =>
  pC call 441 [t0, t8, (.fn 461 [t0] []), t11] H fun t12 H =>
  stK 4 H t2 t12 fun _ H =>
  ob (allM (fun o => o) [aLoad (.some 4) H t2]) fun vs => some (resV vs, H)
noncomputable def S442 : Ff := ⟨fun call l H => argA1 (fun t0 => S442_0 call t0 H) l⟩
/- internal/strconv.ParseInt -/
noncomputable def S445_0 (_ : CallFn) (t8 t9 t10 t58 t61 : AV) (H : AHeap) : R :=
  pPick t58 t61 (.bool false) H fun t62 H =>
  onBool t62 (pConv .i64 t10 H fun t64 H =>
  pO (aUn .neg t64) H fun t65 H =>
  some (.tup [t65, (.iface 375 (.int .i64 (.ofNat 1)))], H)) (pConv .i64 t9 H fun t68 H =>
  onBool t8 (pO (aUn .neg t68) H fun t71 H =>
  some (.tup [t71, .nilif], H)) (some (.tup [t68, .nilif], H)))
noncomputable def S445_1 (call : CallFn) (t8 t9 t10 t48 t51 : AV) (H : AHeap) : R :=
  pPick t48 t51 (.bool false) H fun t52 H =>
  onBool t52 (pSub t10 (.int .u64 (.ofNat 1)) H fun t54 H =>
  pConv .i64 t54 H fun t55 H =>
  some (.tup [t55, (.iface 375 (.int .i64 (.ofNat 1)))], H)) (guardA t8 true (pGtr t9 t10 H fun t61 H =>
  S445_0 call t8 t9 t10 t8 t61 H) (S445_0 call t8 t9 t10 t8 U H))
noncomputable def S445_2 (call : CallFn) (t2 t8 t9 : AV) (H : AHeap) : R :=
  pSub t2 (.int .i64 (.ofNat 1)) H fun t43 H =>
  pConv .u64 t43 H fun t44 H =>
  pO (aBin .shl (.int .u64 (.ofNat 1)) t44) H fun t45 H =>
  pO (aUn .not t8) H fun t47 H =>
  guardA t47 true (pGeq t9 t45 H fun t51 H =>
  S445_1 call t8 t9 t45 t47 t51 H) (S445_1 call t8 t9 t45 t47 U H)
noncomputable def S445_3 (call : CallFn) (t2 t7 t8 t9 t34 t37 : AV) (H : AHeap) : R :=
  pPick t34 t37 (.bool false) H fun t38 H =>
  onBool t38 (some (.tup [(.int .i64 (.ofNat 0)), t7], H)) (pEql t2 (.int .i64 (.ofNat 0)) H fun t41 H =>
  onBool t41 (S445_2 call (.int .i64 (.ofNat 64)) t8 t9 H) (S445_2 call t2 t8 t9 H))
noncomputable def S445_4 (call : CallFn) (t0 t1 t2 t8 : AV) (H : AHeap) : R :=
  pC call 188 [t0, t1, t2] H fun t29 H =>
  pExt t29 0 H fun t30 H =>
  pExt t29 1 H fun t31 H =>
  pO (aEq true .ifc t31 .nilif) H fun t33 H =>
  guardA t33 true (none) (S445_3 call t2 t31 t8 t30 t33 U H)
noncomputable def S445_5 (call : CallFn) (t0 t1 t2 : AV) (H : AHeap) : R :=
  pEql t0 (.str []) H fun t13 H =>
  onBool t13 (some (.tup [(.int .i64 (.ofNat 0)), (.iface 375 (.int .i64 (.ofNat 2)))], H)) (pO (aIdxS t0 (.int .i64 (.ofNat 0))) H fun t16 H =>
  pEql t16 (.int .u8 (.ofNat 43)) H fun t18 H =>
  onBool t18 (pO (aSliceS t0 (.some (.int .i64 (.ofNat 1))) .none) H fun t20 H =>
  S445_4 call t20 t1 t2 (.bool false) H) (pEql t16 (.int .u8 (.ofNat 45)) H fun t22 H =>
  onBool t22 (pO (aSliceS t0 (.some (.int .i64 (.ofNat 1))) .none) H fun t24 H =>
  S445_4 call t24 t1 t2 (.bool true) H) (S445_4 call t0 t1 t2 (.bool false) H)))
noncomputable def S445 : Ff := ⟨fun call l H => argA3 (fun t0 t1 t2 => S445_5 call t0 t1 t2 H) l⟩
/- (*gantline/parse.parser).cmp -/
noncomputable def S461_0 (call : CallFn) (t0 : AV) (H : AHeap) : R :=
  pNew [(.str []), (.str []), (.int .i64 (.ofNat 0)), .nilsl] H fun t2 H =>
  pN (aBsl 1 6 [(.str [])] [(0, 1, (.str [61, 61])), (1, 1, (.str [33, 61])), (2, 1, (.str [60])), (3, 1, (.str [60, 61])), (4, 1, (.str [62])), (5, 1, (.str [62, 61]))]) H fun t6 H =>
  pC call 441 [t0, (.int .i64 (.ofNat 1)), (.fn 474 [t0] []), t6] H fun t7 H =>
  stK 4 H t2 t7 fun _ H =>
  ob (allM (fun o => o) [aLoad (.some 4) H t2]) fun vs => some (resV vs, H)
noncomputable def S461 : Ff := ⟨fun call l H => argA1 (fun t0 => S461_0 call t0 H) l⟩
/- (*gantline/parse.parser).sum -/
noncomputable def S474_0 (call : CallFn) (t0 : AV) (H : AHeap) : R :=
  pNew [(.str []), (.str []), (.int .i64 (.ofNat 0)), .nilsl] H fun t2 H =>
  pO (aNil t0) H fun t5 H =>
  pFa 0 t5 H fun t6 H =>
  ldK .none H t6 fun t7 H =>
  pO (aLen .sl H t7) H fun t8 H =>
  pN (aBsl 1 4 [(.str [])] [(0, 1, (.str [43])), (1, 1, (.str [45])), (2, 1, (.str [124])), (3, 1, (.str [94]))]) H fun t11 H =>
  pC call 441 [t0, t8, (.fn 482 [t0] []), t11] H fun t12 H =>
  stK 4 H t2 t12 fun _ H =>
  ob (allM (fun o => o) [aLoad (.some 4) H t2]) fun vs => some (resV vs, H)
noncomputable def S474 : Ff := ⟨fun call l H => argA1 (fun t0 => S474_0 call t0 H) l⟩
/- (*gantline/parse.parser).term -/
noncomputable def S482_0 (call : CallFn) (t0 : AV) (H : AHeap) : R :=
  pNew [(.str []), (.str []), (.int .i64 (.ofNat 0)), .nilsl] H fun t2 H =>
  pO (aNil t0) H fun t5 H =>
  pFa 0 t5 H fun t6 H =>
  ldK .none H t6 fun t7 H =>
  pO (aLen .sl H t7) H fun t8 H =>
  pN (aBsl 1 6 [(.str [])] [(0, 1, (.str [42])), (1, 1, (.str [47])), (2, 1, (.str [37])), (3, 1, (.str [60, 60])), (4, 1, (.str [62, 62])), (5, 1, (.str [38]))]) H fun t11 H =>
  pC call 441 [t0, t8, (.fn 485 [t0] []), t11] H fun t12 H =>
  stK 4 H t2 t12 fun _ H =>
  ob (allM (fun o => o) [aLoad (.some 4) H t2]) fun vs => some (resV vs, H)
noncomputable def S482 : Ff := ⟨fun call l H => argA1 (fun t0 => S482_0 call t0 H) l⟩
/- (*gantline/parse.parser).unary -/
noncomputable def S485_0 (call : CallFn) (t0 t2 t10000 : AV) (H : AHeap) : R :=
  pC call 61 [t0, (.str [117, 110, 97, 114, 121])] H fun t14 H =>
  pNew [(.str []), (.str []), (.int .i64 (.ofNat 0)), .nilsl] H fun t3 H =>
  stK 4 H t3 t14 fun _ H =>
  pC call 190 [t0] H fun t16 H =>
  pO (aFld 1 .none t16) H fun t17 H =>
  pFa 1 t3 H fun t18 H =>
  stK 1 H t18 t17 fun _ H =>
  pC call 485 [t0] H fun t20 H =>
  pN (aBsl 4 1 [(.str []), (.str []), (.int .i64 (.ofNat 0)), .nilsl] [(0, 4, t20)]) H fun t21 H =>
  pFa 3 t3 H fun t22 H =>
  stK 1 H t22 t21 fun _ H =>
  ldK (.some 4) H t3 fun t23 H =>
  stK 4 H t2 t23 fun _ H =>
  pO (aNil t10000) H fun t20003 H =>
  pFa 2 t20003 H fun t20004 H =>
  ldK .none H t20004 fun t20005 H =>
  pSub t20005 (.int .i64 (.ofNat 1)) H fun t20006 H =>
  pO (aNil t10000) H fun t20007 H =>
  pFa 2 t20007 H fun t20008 H =>
  stK 1 H t20008 t20006 fun _ H =>
  ob (allM (fun o => o) [aLoad (.some 4) H t2]) fun vs => some (resV vs, H)
noncomputable def S485_1 (call : CallFn) (t0 : AV) (H : AHeap) : R :=
  pNew [(.str []), (.str []), (.int .i64 (.ofNat 0)), .nilsl] H fun t2 H =>
  pN (aBsl 1 2 [(.str [])] [(0, 1, (.str [45])), (1, 1, (.str [33]))]) H fun t5 H =>
  pC call 126 [t0, t5] H fun t6 H =>
  pO (aUn .not t6) H fun t7 H =>
  onBool t7 (pC call 486 [t0] H fun t9 H =>
  stK 4 H t2 t9 fun _ H =>
  ob (allM (fun o => o) [aLoad (.some 4) H t2]) fun vs => some (resV vs, H)) (pC call 306 [t0] H fun _ H =>
  S485_0 call t0 t2 t0 H)
noncomputable def S485 : Ff := ⟨fun call l H => argA1 (fun t0 => S485_1 call t0 H) l⟩
/- (*gantline/parse.parser).post -/
noncomputable def S486_0 (call : CallFn) (n : Nat) : AV → AV → AV → AHeap → R :=
  Nat.rec (motive := fun _ => AV → AV → AV → AHeap → R) (fun _ _ _ _ => none) (fun _ q0 t0 t2 t3 H => pC call 62 [t0] H fun t8 H =>
  pNew [(.int .i64 (.ofNat 0)), (.str []), (.int .i64 (.ofNat 0))] H fun t4 H =>
  stK 3 H t4 t8 fun _ H =>
  pC call 123 [t0, (.str [40])] H fun t12 H =>
  onBool t12 (pFa 2 t4 H fun t13 H =>
  ldK .none H t13 fun t14 H =>
  ldK (.some 4) H t3 fun t15 H =>
  pN (aBsl 4 1 [(.str []), (.str []), (.int .i64 (.ofNat 0)), .nilsl] [(0, 4, t15)]) H fun t16 H =>
  pC call 193 [t0, (.fn 488 [t0] [])] H fun t20 H =>
  andR (andB (ckV (aLoad .none H t13) t14) (andB (ckV (aLoad (.some 4) H t3) t15) true)) (
  pW (aApp 4 64 H t16 t20) fun t21 H =>
  andR (andB (ckV (aLoad .none H t13) t14) true) (
  pO (someAgg (aFill [(.str []), (.str []), (.int .i64 (.ofNat 0)), .nilsl] [(0, 1, (.str [99, 97, 108, 108])), (2, 1, t14), (3, 1, t21)])) H fun t22 H =>
  stK 4 H t3 t22 fun _ H =>
  q0 t0 t2 t3 H))) (pC call 123 [t0, (.str [91])] H fun t25 H =>
  onBool t25 (pFa 2 t4 H fun t26 H =>
  ldK .none H t26 fun t27 H =>
  ldK (.some 4) H t3 fun t28 H =>
  pC call 488 [t0] H fun t30 H =>
  andR (andB (ckV (aLoad .none H t26) t27) (andB (ckV (aLoad (.some 4) H t3) t28) true)) (
  pN (aBsl 4 2 [(.str []), (.str []), (.int .i64 (.ofNat 0)), .nilsl] [(0, 4, t28), (4, 4, t30)]) H fun t31 H =>
  pO (someAgg (aFill [(.str []), (.str []), (.int .i64 (.ofNat 0)), .nilsl] [(0, 1, (.str [105, 110, 100, 101, 120])), (2, 1, t27), (3, 1, t31)])) H fun t32 H =>
  stK 4 H t3 t32 fun _ H =>
  pC call 125 [t0, (.str [93])] H fun _ H =>
  q0 t0 t2 t3 H)) (pC call 123 [t0, (.str [46])] H fun t37 H =>
  onBool t37 (pFa 2 t4 H fun t41 H =>
  ldK .none H t41 fun t42 H =>
  ldK (.some 4) H t3 fun t43 H =>
  pN (aBsl 4 1 [(.str []), (.str []), (.int .i64 (.ofNat 0)), .nilsl] [(0, 4, t43)]) H fun t44 H =>
  pC call 124 [t0] H fun t39 H =>
  andR (andB (ckV (aLoad .none H t41) t42) (andB (ckV (aLoad (.some 4) H t3) t43) true)) (
  pO (aFld 1 .none t39) H fun t40 H =>
  pO (someAgg (aFill [(.str []), (.str []), (.int .i64 (.ofNat 0)), .nilsl] [(0, 1, (.str [100, 111, 116])), (1, 1, t40), (2, 1, t42), (3, 1, t44)])) H fun t45 H =>
  stK 4 H t3 t45 fun _ H =>
  q0 t0 t2 t3 H)) (ldK (.some 4) H t3 fun t9 H =>
  stK 4 H t2 t9 fun _ H =>
  ob (allM (fun o => o) [aLoad (.some 4) H t2]) fun vs => some (resV vs, H))))) n
noncomputable def S486_1 (call : CallFn) (t0 : AV) (H : AHeap) : R :=
  pNew [(.str []), (.str []), (.int .i64 (.ofNat 0)), .nilsl] H fun t2 H =>
  pC call 487 [t0] H fun t6 H =>
  pNew [(.str []), (.str []), (.int .i64 (.ofNat 0)), .nilsl] H fun t3 H =>
  stK 4 H t3 t6 fun _ H =>
  S486_0 call 1000000 t0 t2 t3 H
noncomputable def S486 : Ff := ⟨fun call l H => argA1 (fun t0 => S486_1 call t0 H) l⟩
/- (*gantline/parse.parser).prim -/
noncomputable def S487_0 (_ : CallFn) (t2 t4 : AV) (H : AHeap) : R :=
  ldK (.some 4) H t4 fun t104 H =>
  stK 4 H t2 t104 fun _ H =>
  ob (allM (fun o => o) [aLoad (.some 4) H t2]) fun vs => some (resV vs, H)
noncomputable def S487_1 (call : CallFn) (t0 t2 t4 t78 t80 : AV) (H : AHeap) : R :=
  pPick t78 (.bool true) t80 H fun t81 H =>
  onBool t81 (pC call 125 [t0, (.str [40])] H fun _ H =>
  pC call 488 [t0] H fun t85 H =>
  pN (aBsl 4 1 [(.str []), (.str []), (.int .i64 (.ofNat 0)), .nilsl] [(0, 4, t85)]) H fun t86 H =>
  pFa 3 t4 H fun t87 H =>
  stK 1 H t87 t86 fun _ H =>
  pC call 125 [t0, (.str [41])] H fun _ H =>
  S487_0 call t2 t4 H) (pC call 123 [t0, (.str [102, 117, 110, 99])] H fun t92 H =>
  onBool t92 (pC call 128 [t0] H fun t94 H =>
  pFa 0 t4 H fun t95 H =>
  stK 1 H t95 (.str [108, 97, 109, 98, 100, 97]) fun _ H =>
  pFa 3 t4 H fun t96 H =>
  stK 1 H t96 t94 fun _ H =>
  S487_0 call t2 t4 H) (pC call 123 [t0, (.str [40])] H fun t99 H =>
  onBool t99 (pC call 488 [t0] H fun t101 H =>
  stK 4 H t4 t101 fun _ H =>
  pC call 125 [t0, (.str [41])] H fun _ H =>
  S487_0 call t2 t4 H) (pC call 129 [t0, (.int .i64 (.ofNat 6))] H fun _ H =>
  S487_0 call t2 t4 H)))
noncomputable def S487_2 (call : CallFn) (t0 t2 t4 t37 t39 : AV) (H : AHeap) : R :=
  pPick t37 (.bool true) t39 H fun t40 H =>
  onBool t40 (S487_0 call t2 t4 H) (pC call 123 [t0, (.str [110, 105, 108])] H fun t43 H =>
  onBool t43 (pC call 125 [t0, (.str [40])] H fun _ H =>
  pC call 192 [t0] H fun t47 H =>
  pN (aBsl 4 1 [(.str []), (.str []), (.int .i64 (.ofNat 0)), .nilsl] [(0, 4, t47)]) H fun t48 H =>
  pFa 3 t4 H fun t49 H =>
  stK 1 H t49 t48 fun _ H =>
  pC call 125 [t0, (.str [41])] H fun _ H =>
  S487_0 call t2 t4 H) (pC call 123 [t0, (.str [110, 101, 119])] H fun t54 H =>
  onBool t54 (pC call 124 [t0] H fun t56 H =>
  pO (aFld 1 .none t56) H fun t57 H =>
  pFa 1 t4 H fun t58 H =>
  stK 1 H t58 t57 fun _ H =>
  S487_0 call t2 t4 H) (pC call 123 [t0, (.str [109, 97, 107, 101])] H fun t61 H =>
  onBool t61 (pC call 125 [t0, (.str [40])] H fun _ H =>
  pC call 192 [t0] H fun t65 H =>
  pNew [(.str []), (.str []), (.int .i64 (.ofNat 0)), .nilsl] H fun t5 H =>
  stK 4 H t5 t65 fun _ H =>
  pC call 125 [t0, (.str [44])] H fun _ H =>
  ldK (.some 4) H t5 fun t68 H =>
  pC call 488 [t0] H fun t70 H =>
  andR (andB (ckV (aLoad (.some 4) H t5) t68) true) (
  pN (aBsl 4 2 [(.str []), (.str []), (.int .i64 (.ofNat 0)), .nilsl] [(0, 4, t68), (4, 4, t70)]) H fun t71 H =>
  pFa 3 t4 H fun t72 H =>
  stK 1 H t72 t71 fun _ H =>
  pC call 125 [t0, (.str [41])] H fun _ H =>
  S487_0 call t2 t4 H)) (pC call 123 [t0, (.str [108, 101, 110])] H fun t77 H =>
  guardA t77 false (pC call 123 [t0, (.str [114, 101, 99, 118])] H fun t80 H =>
  S487_1 call t0 t2 t4 t77 t80 H) (S487_1 call t0 t2 t4 t77 U H)))))
noncomputable def S487_3 (call : CallFn) (t0 : AV) (H : AHeap) : R :=
  pNew [(.str []), (.str []), (.int .i64 (.ofNat 0)), .nilsl] H fun t2 H =>
  pC call 62 [t0] H fun t7 H =>
  pNew [(.int .i64 (.ofNat 0)), (.str []), (.int .i64 (.ofNat 0))] H fun t3 H =>
  stK 3 H t3 t7 fun _ H =>
  pFa 1 t3 H fun t9 H =>
  ldK .none H t9 fun t10 H =>
  pC call 61 [t0, t10] H fun t11 H =>
  pNew [(.str []), (.str []), (.int .i64 (.ofNat 0)), .nilsl] H fun t4 H =>
  stK 4 H t4 t11 fun _ H =>
  pFa 0 t3 H fun t15 H =>
  ldK .none H t15 fun t16 H =>
  pEql t16 (.int .i64 (.ofNat 3)) H fun t17 H =>
  onBool t17 (pC call 190 [t0] H fun _ H =>
  pFa 1 t3 H fun t20 H =>
  ldK .none H t20 fun t21 H =>
  pFa 0 t4 H fun t22 H =>
  stK 1 H t22 (.str [110, 117, 109, 98, 101, 114]) fun _ H =>
  andR (andB (ckV (aLoad .none H t20) t21) true) (
  pFa 1 t4 H fun t23 H =>
  stK 1 H t23 t21 fun _ H =>
  S487_0 call t2 t4 H)) (pFa 0 t3 H fun t25 H =>
  ldK .none H t25 fun t26 H =>
  pEql t26 (.int .i64 (.ofNat 1)) H fun t27 H =>
  onBool t27 (pC call 190 [t0] H fun _ H =>
  pFa 1 t3 H fun t30 H =>
  ldK .none H t30 fun t31 H =>
  pFa 0 t4 H fun t32 H =>
  stK 1 H t32 (.str [110, 97, 109, 101]) fun _ H =>
  andR (andB (ckV (aLoad .none H t30) t31) true) (
  pFa 1 t4 H fun t33 H =>
  stK 1 H t33 t31 fun _ H =>
  S487_0 call t2 t4 H)) (pC call 123 [t0, (.str [116, 114, 117, 101])] H fun t36 H =>
  guardA t36 false (pC call 123 [t0, (.str [102, 97, 108, 115, 101])] H fun t39 H =>
  S487_2 call t0 t2 t4 t36 t39 H) (S487_2 call t0 t2 t4 t36 U H)))
noncomputable def S487 : Ff := ⟨fun call l H => argA1 (fun t0 => S487_3 call t0 H) l⟩
end Go.Proofs.YtbjjgndgofakoaaGreatDoor
