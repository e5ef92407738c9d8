/- Plain functions, printed: part 1. -/
import Derived.Test.YtdccenbljfanpaaGreatDoorAdE
import Derived.Test.YtdccenbljfanpaaGreatDoorProg
import Derived.Test.YtdccenbljfanpaaGreatDoorVN
import Derived.KernelRfl
namespace Go.Proofs.YtdccenbljfanpaaGreatDoor
open Go.Ab
set_option maxRecDepth 100000
/- gantline/verify.Without -/
noncomputable def S_verify_Without_0 (_ : CallFn) (t4 : AV) (H : AHeap) : R :=
  pO (someAgg (aFill [(.int .i64 (.ofNat 0)), (.int .i64 (.ofNat 0)), (.int .i64 (.ofNat 0))] [])) H fun t92 H =>
  stK 3 H t4 t92 fun _ H =>
  ob (allM (fun o => o) [aLoad (.some 3) H t4, some (.bool true)]) fun vs => some (resV vs, H)
noncomputable def S_verify_Without_2 (_ : CallFn) (q0 : AV → AV → AV → AV → AV → AV → AV → AHeap → R) (t1 t2 t4 t9 t41 t42 t43 : AV) (H : AHeap) : R :=
  pAdd t43 (.int .i64 (.ofNat 1)) H fun t91 H =>
  q0 t1 t2 t4 t9 t41 t42 t91 H
noncomputable def S_verify_Without_4 (_ : CallFn) (q1 : AV → AV → AV → AV → AV → AV → AV → AV → AV → AV → AV → AV → AHeap → R) (t1 t2 t4 t9 t10 t12 t41 t42 t43 t57 t58 t59 : AV) (H : AHeap) : R :=
  pAdd t59 (.int .i64 (.ofNat 1)) H fun t90 H =>
  q1 t1 t2 t4 t9 t10 t12 t41 t42 t43 t57 t58 t90 H
noncomputable def S_verify_Without_6 (_ : CallFn) (q2 : AV → AV → AV → AV → AV → AV → AV → AV → AV → AV → AV → AV → AV → AV → AHeap → R) (t1 t2 t4 t9 t10 t12 t13 t15 t41 t42 t43 t57 t58 t59 t80 t84 : AV) (H : AHeap) : R :=
  pPick t80 t84 (.bool false) H fun t85 H =>
  onBool t85 (pO (someAgg (aFill [(.int .i64 (.ofNat 0)), (.int .i64 (.ofNat 0)), (.int .i64 (.ofNat 0))] [(0, 1, t10), (1, 1, t13), (2, 1, t15)])) H fun t89 H =>
  stK 3 H t4 t89 fun _ H =>
  ob (allM (fun o => o) [aLoad (.some 3) H t4, some (.bool false)]) fun vs => some (resV vs, H)) (pAdd t15 (.int .i64 (.ofNat 1)) H fun t75 H =>
  q2 t1 t2 t4 t9 t10 t12 t13 t75 t41 t42 t43 t57 t58 t59 H)
noncomputable def S_verify_Without_5 (call : CallFn) (q1 : AV → AV → AV → AV → AV → AV → AV → AV → AV → AV → AV → AV → AHeap → R) (n : Nat) : AV → AV → AV → AV → AV → AV → AV → AV → AV → AV → AV → AV → AV → AV → AHeap → R :=
  Nat.rec (motive := fun _ => AV → AV → AV → AV → AV → AV → AV → AV → AV → AV → AV → AV → AV → AV → AHeap → R) (fun _ _ _ _ _ _ _ _ _ _ _ _ _ _ _ => none) (fun _ q2 t1 t2 t4 t9 t10 t12 t13 t15 t41 t42 t43 t57 t58 t59 H => pLeq t15 (.int .i64 (.ofNat 10)) H fun t73 H =>
  onBool t73 (pC call n_slices_Contains_int [t1, t15] H fun t78 H =>
  pO (aUn .not t78) H fun t79 H =>
  guardA t79 true (pC call n_verify_checker_rule [t12, t15] H fun t83 H =>
  pO (aUn .not t83) H fun t84 H =>
  S_verify_Without_6 call q2 t1 t2 t4 t9 t10 t12 t13 t15 t41 t42 t43 t57 t58 t59 t79 t84 H) (S_verify_Without_6 call q2 t1 t2 t4 t9 t10 t12 t13 t15 t41 t42 t43 t57 t58 t59 t79 U H)) (S_verify_Without_4 call q1 t1 t2 t4 t9 t10 t12 t41 t42 t43 t57 t58 t59 H)) n
noncomputable def S_verify_Without_3 (call : CallFn) (q0 : AV → AV → AV → AV → AV → AV → AV → AHeap → R) (n : Nat) : AV → AV → AV → AV → AV → AV → AV → AV → AV → AV → AV → AV → AHeap → R :=
  Nat.rec (motive := fun _ => AV → AV → AV → AV → AV → AV → AV → AV → AV → AV → AV → AV → AHeap → R) (fun _ _ _ _ _ _ _ _ _ _ _ _ _ => none) (fun _ q1 t1 t2 t4 t9 t10 t12 t41 t42 t43 t57 t58 t59 H => pLss t59 t58 H fun t60 H =>
  onBool t60 (pIa 5 t57 t59 H fun t62 H =>
  ldK (.some 5) H t62 fun t63 H =>
  pNew [(.int .i64 (.ofNat 0)), (.int .i64 (.ofNat 0)), (.int .i64 (.ofNat 0)), (.int .i64 (.ofNat 0)), (.int .i64 (.ofNat 0))] H fun t14 H =>
  stK 5 H t14 t63 fun _ H =>
  ldK (.some 5) H t14 fun t67 H =>
  pO (aNil t12) H fun t68 H =>
  pFa 16 t68 H fun t69 H =>
  stK 1 H t69 t59 fun _ H =>
  andR (andB (ckV (aLoad (.some 5) H t14) t67) true) (
  pO (aNil t12) H fun t70 H =>
  pFa 17 t70 H fun t71 H =>
  stK 5 H t71 t67 fun _ H =>
  S_verify_Without_5 call q1 1000000 t1 t2 t4 t9 t10 t12 t59 (.int .i64 (.ofNat 4)) t41 t42 t43 t57 t58 t59 H)) (S_verify_Without_2 call q0 t1 t2 t4 t9 t41 t42 t43 H)) n
noncomputable def S_verify_Without_1 (call : CallFn) (n : Nat) : AV → AV → AV → AV → AV → AV → AV → AHeap → R :=
  Nat.rec (motive := fun _ => AV → AV → AV → AV → AV → AV → AV → AHeap → R) (fun _ _ _ _ _ _ _ _ => none) (fun _ q0 t1 t2 t4 t9 t41 t42 t43 H => pLss t43 t42 H fun t44 H =>
  onBool t44 (pIa 7 t41 t43 H fun t46 H =>
  ldK (.some 7) H t46 fun t47 H =>
  pNew [(.int .i64 (.ofNat 0)), (.int .i64 (.ofNat 0)), (.int .i64 (.ofNat 0)), (.int .i64 (.ofNat 0)), .nilsl, .nilsl, .nilsl] H fun t11 H =>
  stK 7 H t11 t47 fun _ H =>
  ldK (.some 6) H t2 fun t48 H =>
  ldK (.some 7) H t11 fun t49 H =>
  ldK (.some 6) H t2 fun t50 H =>
  ldK (.some 7) H t11 fun t51 H =>
  pC call n_live_Maps [t50, t51] H fun t52 H =>
  andR (andB (ckV (aLoad (.some 6) H t2) t48) (andB (ckV (aLoad (.some 7) H t11) t49) true)) (
  pO (someAgg (aFill [.nilsl, .nilsl, .nilsl, .nilsl, .nilsl, (.int .i64 (.ofNat 0)), (.int .i64 (.ofNat 0)), (.int .i64 (.ofNat 0)), (.int .i64 (.ofNat 0)), (.int .i64 (.ofNat 0)), .nilsl, .nilsl, .nilsl, .nilsl, .nilsl, .nilsl, (.int .i64 (.ofNat 0)), (.int .i64 (.ofNat 0)), (.int .i64 (.ofNat 0)), (.int .i64 (.ofNat 0)), (.int .i64 (.ofNat 0)), (.int .i64 (.ofNat 0))] [(0, 6, t48), (6, 7, t49), (13, 1, t52), (15, 1, t9)])) H fun t54 H =>
  pBox t54 H fun t55 H =>
  pFa 5 t11 H fun t56 H =>
  ldK .none H t56 fun t57 H =>
  pO (aLen .sl H t57) H fun t58 H =>
  S_verify_Without_3 call q0 1000000 t1 t2 t4 t9 t43 t55 t41 t42 t43 t57 t58 (.int .i64 (.ofNat 0)) H)) (S_verify_Without_0 call t4 H)) n
noncomputable def S_verify_Without_7 (call : CallFn) (t1 t2 t4 : AV) (H : AHeap) : R :=
  pFa 3 t2 H fun t36 H =>
  ldK .none H t36 fun t37 H =>
  pO (aLen .sl H t37) H fun t38 H =>
  pN (aMksl 1 1 [(.bool false)] t38 t38) H fun t39 H =>
  pFa 4 t2 H fun t40 H =>
  ldK .none H t40 fun t41 H =>
  pO (aLen .sl H t41) H fun t42 H =>
  S_verify_Without_1 call 1000000 t1 t2 t4 t39 t41 t42 (.int .i64 (.ofNat 0)) H
noncomputable def S_verify_Without_8 (call : CallFn) (n : Nat) : AV → AV → AV → AV → AV → AV → AHeap → R :=
  Nat.rec (motive := fun _ => AV → AV → AV → AV → AV → AV → AHeap → R) (fun _ _ _ _ _ _ _ => none) (fun _ q3 t1 t2 t4 t23 t24 t25 H => pLss t25 t24 H fun t26 H =>
  onBool t26 (pIa 7 t23 t25 H fun t28 H =>
  ldK (.some 7) H t28 fun t29 H =>
  pNew [(.int .i64 (.ofNat 0)), (.int .i64 (.ofNat 0)), (.int .i64 (.ofNat 0)), (.int .i64 (.ofNat 0)), .nilsl, .nilsl, .nilsl] H fun t8 H =>
  stK 7 H t8 t29 fun _ H =>
  ldK (.some 7) H t8 fun t30 H =>
  pC call n_verify_whole [t30] H fun t31 H =>
  pO (aUn .not t31) H fun t32 H =>
  onBool t32 (pO (someAgg (aFill [(.int .i64 (.ofNat 0)), (.int .i64 (.ofNat 0)), (.int .i64 (.ofNat 0))] [(0, 1, t25), (1, 1, (.int .i64 (.negSucc 0))), (2, 1, (.int .i64 (.ofNat 3)))])) H fun t34 H =>
  stK 3 H t4 t34 fun _ H =>
  ob (allM (fun o => o) [aLoad (.some 3) H t4, some (.bool false)]) fun vs => some (resV vs, H)) (pAdd t25 (.int .i64 (.ofNat 1)) H fun t35 H =>
  q3 t1 t2 t4 t23 t24 t35 H)) (S_verify_Without_7 call t1 t2 t4 H)) n
noncomputable def S_verify_Without_9 (call : CallFn) (t0 t1 : AV) (H : AHeap) : R :=
  pBox t0 H fun t2 H =>
  pNew [(.int .i64 (.ofNat 0)), (.int .i64 (.ofNat 0)), (.int .i64 (.ofNat 0))] H fun t4 H =>
  ldK (.some 6) H t2 fun t16 H =>
  pC call n_verify_module [t16] H fun t17 H =>
  pGtr t17 (.int .i64 (.ofNat 0)) H fun t19 H =>
  onBool t19 (pO (someAgg (aFill [(.int .i64 (.ofNat 0)), (.int .i64 (.ofNat 0)), (.int .i64 (.ofNat 0))] [(0, 1, (.int .i64 (.negSucc 0))), (1, 1, (.int .i64 (.negSucc 0))), (2, 1, t17)])) H fun t21 H =>
  stK 3 H t4 t21 fun _ H =>
  ob (allM (fun o => o) [aLoad (.some 3) H t4, some (.bool false)]) fun vs => some (resV vs, H)) (pFa 4 t2 H fun t22 H =>
  ldK .none H t22 fun t23 H =>
  pO (aLen .sl H t23) H fun t24 H =>
  S_verify_Without_8 call 1000000 t1 t2 t4 t23 t24 (.int .i64 (.ofNat 0)) H)
noncomputable def S_verify_Without : Ff := ⟨fun call l H => argA2 (fun t0 t1 => S_verify_Without_9 call t0 t1 H) l⟩
/- gantline/arena.New -/
noncomputable def S_arena_New_0 (_ : CallFn) (n : Nat) : AV → AV → AV → AHeap → R :=
  Nat.rec (motive := fun _ => AV → AV → AV → AHeap → R) (fun _ _ _ _ => none) (fun _ q0 t4 t23 t24 H => pLss t24 t23 H fun t25 H =>
  onBool t25 (pO (aNil t4) H fun t28 H =>
  pFa 1 t28 H fun t29 H =>
  ldK .none H t29 fun t30 H =>
  pIa 3 t30 t24 H fun t32 H =>
  pFa 0 t32 H fun t33 H =>
  stK 1 H t33 (.int .i64 (.negSucc 0)) fun _ H =>
  pAdd t24 (.int .i64 (.ofNat 1)) H fun t34 H =>
  q0 t4 t23 t34 H) (some (.tup [t4, (.int .i64 (.ofNat 0))], H))) n
noncomputable def S_arena_New_1 (call : CallFn) (t0 t8 t10 : AV) (H : AHeap) : R :=
  pPick t8 (.bool true) t10 H fun t11 H =>
  onBool t11 (some (.tup [.nilp, (.int .i64 (.ofNat 1))], H)) (pMul t0 (.int .i64 (.ofNat 64)) H fun t13 H =>
  pN (aMksl 1 8 [(.int .i64 (.ofNat 0))] t13 t13) H fun t14 H =>
  pN (aMksl 3 24 [(.int .i64 (.ofNat 0)), (.int .u64 (.ofNat 0)), (.int .u64 (.ofNat 0))] t0 t0) H fun t16 H =>
  pO (someAgg (aFill [.nilsl, .nilsl] [(0, 1, t14), (1, 1, t16)])) H fun t17 H =>
  pBox t17 H fun t18 H =>
  pO (aNil t18) H fun t20 H =>
  pFa 1 t20 H fun t21 H =>
  ldK .none H t21 fun t22 H =>
  pO (aLen .sl H t22) H fun t23 H =>
  S_arena_New_0 call 1000000 t18 t23 (.int .i64 (.ofNat 0)) H)
noncomputable def S_arena_New_2 (call : CallFn) (t0 : AV) (H : AHeap) : R :=
  pLss t0 (.int .i64 (.ofNat 8)) H fun t7 H =>
  guardA t7 false (pGtr t0 (.int .i64 (.ofNat 512)) H fun t10 H =>
  S_arena_New_1 call t0 t7 t10 H) (S_arena_New_1 call t0 t7 U H)
noncomputable def S_arena_New : Ff := ⟨fun call l H => argA1 (fun t0 => S_arena_New_2 call t0 H) l⟩
/- gantline/head.New -/
noncomputable def S_head_New_0 (_ : CallFn) (H : AHeap) : R :=
  pMap H fun t1 H =>
  pO (someAgg (aFill [.nilsl, .nilmap] [(1, 1, t1)])) H fun t2 H =>
  pBox t2 H fun t3 H =>
  some (t3, H)
noncomputable def S_head_New : Ff := ⟨fun call l H => argA0 (S_head_New_0 call H) l⟩
/- gantline/alloc.New -/
noncomputable def S_alloc_New_0 (call : CallFn) (t0 : AV) (H : AHeap) : R :=
  pC call n_arena_Arena_Spans [t0] H fun t5 H =>
  pN (aMksl 1 1 [(.bool false)] t5 t5) H fun t6 H =>
  pO (someAgg (aFill [.nilp, .nilsl] [(0, 1, t0), (1, 1, t6)])) H fun t7 H =>
  pBox t7 H fun t8 H =>
  some (t8, H)
noncomputable def S_alloc_New : Ff := ⟨fun call l H => argA1 (fun t0 => S_alloc_New_0 call t0 H) l⟩
/- gantline/mark.New -/
noncomputable def S_mark_New_0 (call : CallFn) (t0 t1 : AV) (H : AHeap) : R :=
  pC call n_grey_New [] H fun t7 H =>
  pO (someAgg (aFill [.nilp, .nilp, .nilp] [(0, 1, t0), (1, 1, t1), (2, 1, t7)])) H fun t8 H =>
  pBox t8 H fun t9 H =>
  some (t9, H)
noncomputable def S_mark_New : Ff := ⟨fun call l H => argA2 (fun t0 t1 => S_mark_New_0 call t0 t1 H) l⟩
/- gantline/frame.begin -/
noncomputable def S_frame_begin_0 (_ : CallFn) (t1 t2 t6 t8 t40 t43 : AV) (H : AHeap) : R :=
  pPick t40 (.bool true) t43 H fun t44 H =>
  onBool t44 (pO (someAgg (aFill [(.int .i64 (.ofNat 0)), (.int .i64 (.ofNat 0)), .nilsl] [])) H fun t45 H =>
  stK 3 H t6 t45 fun _ H =>
  ob (allM (fun o => o) [aLoad (.some 3) H t6, some (.int .i64 (.ofNat 1))]) fun vs => some (resV vs, H)) (pFa 2 t8 H fun t46 H =>
  ldK .none H t46 fun t47 H =>
  pN (aMksl 1 8 [(.int .i64 (.ofNat 0))] t47 t47) H fun t48 H =>
  pW (aCopy 1 H t48 t2) fun _ H =>
  pO (someAgg (aFill [(.int .i64 (.ofNat 0)), (.int .i64 (.ofNat 0)), .nilsl] [(0, 1, t1), (2, 1, t48)])) H fun t54 H =>
  stK 3 H t6 t54 fun _ H =>
  ob (allM (fun o => o) [aLoad (.some 3) H t6, some (.int .i64 (.ofNat 0))]) fun vs => some (resV vs, H))
noncomputable def S_frame_begin_1 (call : CallFn) (t1 t2 t6 t8 t33 t38 : AV) (H : AHeap) : R :=
  pPick t33 (.bool true) t38 H fun t39 H =>
  guardA t39 false (pFa 2 t8 H fun t41 H =>
  ldK .none H t41 fun t42 H =>
  pGtr t42 (.int .i64 (.ofNat 64)) H fun t43 H =>
  S_frame_begin_0 call t1 t2 t6 t8 t39 t43 H) (S_frame_begin_0 call t1 t2 t6 t8 t39 U H)
noncomputable def S_frame_begin_2 (call : CallFn) (t1 t2 t3 t6 t12 t17 : AV) (H : AHeap) : R :=
  pPick t12 (.bool true) t17 H fun t18 H =>
  onBool t18 (pO (someAgg (aFill [(.int .i64 (.ofNat 0)), (.int .i64 (.ofNat 0)), .nilsl] [])) H fun t19 H =>
  stK 3 H t6 t19 fun _ H =>
  ob (allM (fun o => o) [aLoad (.some 3) H t6, some (.int .i64 (.ofNat 1))]) fun vs => some (resV vs, H)) (pFa 4 t3 H fun t20 H =>
  ldK .none H t20 fun t21 H =>
  pIa 7 t21 t1 H fun t23 H =>
  ldK (.some 7) H t23 fun t24 H =>
  pNew [(.int .i64 (.ofNat 0)), (.int .i64 (.ofNat 0)), (.int .i64 (.ofNat 0)), (.int .i64 (.ofNat 0)), .nilsl, .nilsl, .nilsl] H fun t8 H =>
  stK 7 H t8 t24 fun _ H =>
  pO (aLen .sl H t2) H fun t26 H =>
  pFa 0 t8 H fun t27 H =>
  ldK .none H t27 fun t28 H =>
  pFa 1 t8 H fun t29 H =>
  ldK .none H t29 fun t30 H =>
  pAdd t28 t30 H fun t31 H =>
  pNeq t26 t31 H fun t32 H =>
  guardA t32 false (pO (aLen .sl H t2) H fun t35 H =>
  pFa 2 t8 H fun t36 H =>
  ldK .none H t36 fun t37 H =>
  pGtr t35 t37 H fun t38 H =>
  S_frame_begin_1 call t1 t2 t6 t8 t32 t38 H) (S_frame_begin_1 call t1 t2 t6 t8 t32 U H))
noncomputable def S_frame_begin_3 (call : CallFn) (t0 t1 t2 : AV) (H : AHeap) : R :=
  pBox t0 H fun t3 H =>
  pNew [(.int .i64 (.ofNat 0)), (.int .i64 (.ofNat 0)), .nilsl] H fun t6 H =>
  pLss t1 (.int .i64 (.ofNat 0)) H fun t11 H =>
  guardA t11 false (pFa 4 t3 H fun t14 H =>
  ldK .none H t14 fun t15 H =>
  pO (aLen .sl H t15) H fun t16 H =>
  pGeq t1 t16 H fun t17 H =>
  S_frame_begin_2 call t1 t2 t3 t6 t11 t17 H) (S_frame_begin_2 call t1 t2 t3 t6 t11 U H)
noncomputable def S_frame_begin : Ff := ⟨fun call l H => argA3 (fun t0 t1 t2 => S_frame_begin_3 call t0 t1 t2 H) l⟩
/- slices.DeleteFunc[[]int,int] -/
noncomputable def S_slices_DeleteFunc_int_0 (_ : CallFn) (t0 t5 : AV) (H : AHeap) : R :=
  pO (aSlice 1 H t0 (.some t5) .none .none) H fun t38 H =>
  pW (unitW (aClearS [(.int .i64 (.ofNat 0))] H t38)) fun _ H =>
  pO (aSlice 1 H t0 .none (.some t5) .none) H fun t41 H =>
  some (t41, H)
noncomputable def S_slices_DeleteFunc_int_2 (_ : CallFn) (q0 : AV → AV → AV → AV → AHeap → R) (t0 t1 t5 t6 : AV) (H : AHeap) : R :=
  pAdd t6 (.int .i64 (.ofNat 1)) H fun t21 H =>
  q0 t0 t1 t5 t21 H
noncomputable def S_slices_DeleteFunc_int_1 (call : CallFn) (n : Nat) : AV → AV → AV → AV → AHeap → R :=
  Nat.rec (motive := fun _ => AV → AV → AV → AV → AHeap → R) (fun _ _ _ _ _ => none) (fun _ q0 t0 t1 t5 t6 H => pO (aLen .sl H t0) H fun t18 H =>
  pLss t6 t18 H fun t19 H =>
  onBool t19 (pIa 1 t0 t6 H fun t24 H =>
  ldK .none H t24 fun t25 H =>
  pV call t1 [t25] H fun t28 H =>
  pO (aUn .not t28) H fun t29 H =>
  onBool t29 (pIa 1 t0 t5 H fun t33 H =>
  stK 1 H t33 t25 fun _ H =>
  pAdd t5 (.int .i64 (.ofNat 1)) H fun t35 H =>
  S_slices_DeleteFunc_int_2 call q0 t0 t1 t35 t6 H) (S_slices_DeleteFunc_int_2 call q0 t0 t1 t5 t6 H)) (S_slices_DeleteFunc_int_0 call t0 t5 H)) n
noncomputable def S_slices_DeleteFunc_int_3 (call : CallFn) (t0 t1 : AV) (H : AHeap) : R :=
  pC call n_slices_IndexFunc_int [t0, t1] H fun t10 H =>
  pEql t10 (.int .i64 (.negSucc 0)) H fun t12 H =>
  onBool t12 (some (t0, H)) (pAdd t10 (.int .i64 (.ofNat 1)) H fun t15 H =>
  S_slices_DeleteFunc_int_1 call 1000000 t0 t1 t10 t15 H)
noncomputable def S_slices_DeleteFunc_int : Ff := ⟨fun call l H => argA2 (fun t0 t1 => S_slices_DeleteFunc_int_3 call t0 t1 H) l⟩
/- (*gantline/sched.Table).IDs -/
noncomputable def S_sched_Table_IDs_0 (call : CallFn) (t0 : AV) (H : AHeap) : R :=
  pO (aNil t0) H fun t4 H =>
  pFa 6 t4 H fun t5 H =>
  ldK .none H t5 fun t6 H =>
  pC call n_maps_Keys_int__frame_Stack [t6] H fun t7 H =>
  pC call n_slices_Sorted_int [t7] H fun t8 H =>
  some (t8, H)
noncomputable def S_sched_Table_IDs : Ff := ⟨fun call l H => argA1 (fun t0 => S_sched_Table_IDs_0 call t0 H) l⟩
/- (*gantline/sched.Table).Enabled$1 -/
noncomputable def S_sched_Table_Enabled_c1_0 (call : CallFn) (t0 t1 t2 : AV) (H : AHeap) : R :=
  ldK .none H t1 fun t5 H =>
  ldK .none H t2 fun t6 H =>
  pC call n_sched_Table_Ways [t5, t6, t0] H fun t8 H =>
  pO (aLen .sl H t8) H fun t9 H =>
  pEql t9 (.int .i64 (.ofNat 0)) H fun t10 H =>
  some (t10, H)
noncomputable def S_sched_Table_Enabled_c1 : Ff := ⟨fun call l H => argA3 (fun t0 t1 t2 => S_sched_Table_Enabled_c1_0 call t0 t1 t2 H) l⟩
/- internal/strconv.small -/
noncomputable def S_internal_strconv_small_0 (_ : CallFn) (t0 : AV) (H : AHeap) : R :=
  pLss t0 (.int .i64 (.ofNat 10)) H fun t4 H =>
  onBool t4 (pAdd t0 (.int .i64 (.ofNat 1)) H fun t7 H =>
  pO (aSliceS (.str [48, 49, 50, 51, 52, 53, 54, 55, 56, 57, 97, 98, 99, 100, 101, 102, 103, 104, 105, 106, 107, 108, 109, 110, 111, 112, 113, 114, 115, 116, 117, 118, 119, 120, 121, 122]) (.some t0) (.some t7)) H fun t8 H =>
  some (t8, H)) (pMul t0 (.int .i64 (.ofNat 2)) H fun t10 H =>
  pMul t0 (.int .i64 (.ofNat 2)) H fun t12 H =>
  pAdd t12 (.int .i64 (.ofNat 2)) H fun t13 H =>
  pO (aSliceS (.str [48, 48, 48, 49, 48, 50, 48, 51, 48, 52, 48, 53, 48, 54, 48, 55, 48, 56, 48, 57, 49, 48, 49, 49, 49, 50, 49, 51, 49, 52, 49, 53, 49, 54, 49, 55, 49, 56, 49, 57, 50, 48, 50, 49, 50, 50, 50, 51, 50, 52, 50, 53, 50, 54, 50, 55, 50, 56, 50, 57, 51, 48, 51, 49, 51, 50, 51, 51, 51, 52, 51, 53, 51, 54, 51, 55, 51, 56, 51, 57, 52, 48, 52, 49, 52, 50, 52, 51, 52, 52, 52, 53, 52, 54, 52, 55, 52, 56, 52, 57, 53, 48, 53, 49, 53, 50, 53, 51, 53, 52, 53, 53, 53, 54, 53, 55, 53, 56, 53, 57, 54, 48, 54, 49, 54, 50, 54, 51, 54, 52, 54, 53, 54, 54, 54, 55, 54, 56, 54, 57, 55, 48, 55, 49, 55, 50, 55, 51, 55, 52, 55, 53, 55, 54, 55, 55, 55, 56, 55, 57, 56, 48, 56, 49, 56, 50, 56, 51, 56, 52, 56, 53, 56, 54, 56, 55, 56, 56, 56, 57, 57, 48, 57, 49, 57, 50, 57, 51, 57, 52, 57, 53, 57, 54, 57, 55, 57, 56, 57, 57]) (.some t10) (.some t13)) H fun t14 H =>
  some (t14, H))
noncomputable def S_internal_strconv_small : Ff := ⟨fun call l H => argA1 (fun t0 => S_internal_strconv_small_0 call t0 H) l⟩
/- (*gantline/frame.Stack).top -/
noncomputable def S_frame_Stack_top_0 (_ : CallFn) (t0 : AV) (H : AHeap) : R :=
  pO (aNil t0) H fun t4 H =>
  pFa 0 t4 H fun t5 H =>
  ldK .none H t5 fun t6 H =>
  pO (aLen .sl H t6) H fun t7 H =>
  pEql t7 (.int .i64 (.ofNat 0)) H fun t8 H =>
  onBool t8 (some (.nilp, H)) (pO (aNil t0) H fun t10 H =>
  pFa 0 t10 H fun t11 H =>
  ldK .none H t11 fun t12 H =>
  pO (aNil t0) H fun t14 H =>
  pFa 0 t14 H fun t15 H =>
  ldK .none H t15 fun t16 H =>
  pO (aLen .sl H t16) H fun t17 H =>
  pSub t17 (.int .i64 (.ofNat 1)) H fun t18 H =>
  pIa 3 t12 t18 H fun t19 H =>
  some (t19, H))
noncomputable def S_frame_Stack_top : Ff := ⟨fun call l H => argA1 (fun t0 => S_frame_Stack_top_0 call t0 H) l⟩
/- gantline/frame.clone -/
noncomputable def S_frame_clone_0 (call : CallFn) (t0 : AV) (H : AHeap) : R :=
  pBox t0 H fun t1 H =>
  pNew [(.int .i64 (.ofNat 0)), (.int .i64 (.ofNat 0)), .nilsl] H fun t2 H =>
  pFa 2 t1 H fun t3 H =>
  ldK .none H t3 fun t4 H =>
  pC call n_slices_Clone_int64 [t4] H fun t5 H =>
  pFa 2 t1 H fun t6 H =>
  stK 1 H t6 t5 fun _ H =>
  ldK (.some 3) H t1 fun t7 H =>
  stK 3 H t2 t7 fun _ H =>
  ob (allM (fun o => o) [aLoad (.some 3) H t2]) fun vs => some (resV vs, H)
noncomputable def S_frame_clone : Ff := ⟨fun call l H => argA1 (fun t0 => S_frame_clone_0 call t0 H) l⟩
/- (*gantline/vm.doing).plain -/
noncomputable def S_vm_doing_plain_0 (call : CallFn) (t0 : AV) (H : AHeap) : R :=
  pO (aNil t0) H fun t7 H =>
  pFa 3 t7 H fun t8 H =>
  ldK (.some 5) H t8 fun t9 H =>
  pO (aNil t0) H fun t11 H =>
  pFa 2 t11 H fun t12 H =>
  ldK .none H t12 fun t13 H =>
  pNew [(.int .i64 (.ofNat 0)), (.int .i64 (.ofNat 0)), (.int .i64 (.ofNat 0)), (.int .i64 (.ofNat 0)), (.int .i64 (.ofNat 0))] H fun t2 H =>
  stK 5 H t2 t9 fun _ H =>
  andR (andB (ckV (aLoad .none H t12) t13) true) (
  pFa 0 t2 H fun t14 H =>
  ldK .none H t14 fun t15 H =>
  pEql t15 (.int .i64 (.ofNat 0)) H fun t40 H =>
  onBool t40 (pO (aNil t0) H fun t43 H =>
  pFa 0 t43 H fun t44 H =>
  ldK .none H t44 fun t45 H =>
  pO (aNil t45) H fun t46 H =>
  pFa 0 t46 H fun t47 H =>
  pFa 2 t47 H fun t48 H =>
  ldK .none H t48 fun t49 H =>
  pFa 2 t2 H fun t50 H =>
  ldK .none H t50 fun t51 H =>
  pIa 1 t49 t51 H fun t52 H =>
  ldK .none H t52 fun t53 H =>
  pC call n_vm_doing_give [t0, t53] H fun _ H =>
  some (.tup [], H)) (pEql t15 (.int .i64 (.ofNat 1)) H fun t56 H =>
  onBool t56 (pFa 2 t2 H fun t59 H =>
  ldK .none H t59 fun t60 H =>
  pC call n_frame_Stack_Get [t13, t60] H fun t61 H =>
  pC call n_vm_doing_give [t0, t61] H fun _ H =>
  some (.tup [], H)) (pEql t15 (.int .i64 (.ofNat 2)) H fun t64 H =>
  onBool t64 (pC call n_vm_doing_give [t0, (.int .i64 (.ofNat 0))] H fun _ H =>
  some (.tup [], H)) (pEql t15 (.int .i64 (.ofNat 17)) H fun t68 H =>
  onBool t68 (pFa 2 t2 H fun t71 H =>
  ldK .none H t71 fun t72 H =>
  pC call n_frame_Stack_Get [t13, t72] H fun t73 H =>
  pEql t73 (.int .i64 (.ofNat 0)) H fun t74 H =>
  pC call n_vm_one [t74] H fun t75 H =>
  pC call n_vm_doing_give [t0, t75] H fun _ H =>
  some (.tup [], H)) (pEql t15 (.int .i64 (.ofNat 18)) H fun t78 H =>
  onBool t78 (pFa 1 t2 H fun t80 H =>
  ldK .none H t80 fun t81 H =>
  pC call n_frame_Stack_Jump [t13, t81] H fun _ H =>
  some (.tup [], H)) (pEql t15 (.int .i64 (.ofNat 19)) H fun t84 H =>
  onBool t84 (pC call n_vm_doing_on [t0] H fun _ H =>
  pFa 1 t2 H fun t88 H =>
  ldK .none H t88 fun t89 H =>
  pC call n_frame_Stack_Get [t13, t89] H fun t90 H =>
  pNeq t90 (.int .i64 (.ofNat 0)) H fun t91 H =>
  onBool t91 (pFa 2 t2 H fun t93 H =>
  ldK .none H t93 fun t94 H =>
  pC call n_frame_Stack_Jump [t13, t94] H fun _ H =>
  some (.tup [], H)) (some (.tup [], H))) (pEql t15 (.int .i64 (.ofNat 43)) H fun t97 H =>
  onBool t97 (pC call n_vm_doing_on [t0] H fun _ H =>
  some (.tup [], H)) (pFa 0 t2 H fun t17 H =>
  ldK .none H t17 fun t18 H =>
  pFa 2 t2 H fun t20 H =>
  ldK .none H t20 fun t21 H =>
  pFa 3 t2 H fun t24 H =>
  ldK .none H t24 fun t25 H =>
  pC call n_frame_Stack_Get [t13, t21] H fun t22 H =>
  andR (andB (ckV (aLoad .none H t17) t18) (andB (ckV (aLoad .none H t24) t25) true)) (
  pC call n_frame_Stack_Get [t13, t25] H fun t26 H =>
  andR (andB (ckV (aLoad .none H t17) t18) true) (
  pC call n_vm_reckon [t18, t22, t26] H fun t27 H =>
  pExt t27 0 H fun t28 H =>
  pExt t27 1 H fun t29 H =>
  onBool t29 (pC call n_vm_doing_give [t0, t28] H fun _ H =>
  some (.tup [], H)) (pO (aNil t0) H fun t35 H =>
  pFa 0 t35 H fun t36 H =>
  ldK .none H t36 fun t37 H =>
  pC call n_vm_Machine_fall [t37, (.int .i64 (.ofNat 3))] H fun _ H =>
  some (.tup [], H))))))))))))
noncomputable def S_vm_doing_plain : Ff := ⟨fun call l H => argA1 (fun t0 => S_vm_doing_plain_0 call t0 H) l⟩
/- (*gantline/vm.doing).calls -/
noncomputable def S_vm_doing_calls_0 (call : CallFn) (t0 : AV) (H : AHeap) : R :=
  pO (aNil t0) H fun t11 H =>
  pFa 3 t11 H fun t12 H =>
  ldK (.some 5) H t12 fun t13 H =>
  pNew [(.int .i64 (.ofNat 0)), (.int .i64 (.ofNat 0)), (.int .i64 (.ofNat 0)), (.int .i64 (.ofNat 0)), (.int .i64 (.ofNat 0))] H fun t2 H =>
  stK 5 H t2 t13 fun _ H =>
  pFa 0 t2 H fun t14 H =>
  ldK .none H t14 fun t15 H =>
  pEql t15 (.int .i64 (.ofNat 20)) H fun t17 H =>
  onBool t17 (pFa 2 t2 H fun t19 H =>
  ldK .none H t19 fun t20 H =>
  pFa 3 t2 H fun t22 H =>
  ldK .none H t22 fun t23 H =>
  pO (aNil t0) H fun t25 H =>
  pFa 0 t25 H fun t26 H =>
  ldK .none H t26 fun t27 H =>
  pO (aNil t27) H fun t28 H =>
  pFa 0 t28 H fun t29 H =>
  pFa 4 t29 H fun t30 H =>
  ldK .none H t30 fun t31 H =>
  pFa 2 t2 H fun t32 H =>
  ldK .none H t32 fun t33 H =>
  pIa 7 t31 t33 H fun t34 H =>
  pFa 0 t34 H fun t35 H =>
  ldK .none H t35 fun t36 H =>
  pC call n_vm_doing_run [t0, t23, t36] H fun t37 H =>
  andR (andB (ckV (aLoad .none H t19) t20) true) (
  pC call n_vm_doing_call [t0, t20, t37] H fun _ H =>
  some (.tup [], H))) (pEql t15 (.int .i64 (.ofNat 21)) H fun t40 H =>
  onBool t40 (pO (aNil t0) H fun t44 H =>
  pFa 2 t44 H fun t45 H =>
  ldK .none H t45 fun t46 H =>
  pFa 2 t2 H fun t47 H =>
  ldK .none H t47 fun t48 H =>
  pFa 3 t2 H fun t50 H =>
  ldK .none H t50 fun t51 H =>
  pFa 4 t2 H fun t52 H =>
  ldK .none H t52 fun t53 H =>
  pC call n_frame_Stack_Get [t46, t48] H fun t49 H =>
  andR (andB (ckV (aLoad .none H t50) t51) (andB (ckV (aLoad .none H t52) t53) true)) (
  pC call n_vm_doing_closed [t0, t49, t51, t53, (.fn n_vm_doing_answers [t0] [])] H fun t56 H =>
  pExt t56 0 H fun t57 H =>
  pExt t56 1 H fun t58 H =>
  pExt t56 2 H fun t59 H =>
  onBool t59 (pC call n_vm_doing_call [t0, t57, t58] H fun _ H =>
  some (.tup [], H)) (some (.tup [], H)))) (pEql t15 (.int .i64 (.ofNat 22)) H fun t66 H =>
  onBool t66 (pC call n_vm_doing_back [t0] H fun _ H =>
  some (.tup [], H)) (pEql t15 (.int .i64 (.ofNat 23)) H fun t70 H =>
  onBool t70 (pFa 1 t2 H fun t72 H =>
  ldK .none H t72 fun t73 H =>
  pFa 2 t2 H fun t75 H =>
  ldK .none H t75 fun t76 H =>
  pO (aNil t0) H fun t78 H =>
  pFa 0 t78 H fun t79 H =>
  ldK .none H t79 fun t80 H =>
  pO (aNil t80) H fun t81 H =>
  pFa 0 t81 H fun t82 H =>
  pFa 4 t82 H fun t83 H =>
  ldK .none H t83 fun t84 H =>
  pFa 1 t2 H fun t85 H =>
  ldK .none H t85 fun t86 H =>
  pIa 7 t84 t86 H fun t87 H =>
  pFa 0 t87 H fun t88 H =>
  ldK .none H t88 fun t89 H =>
  pC call n_vm_doing_run [t0, t76, t89] H fun t90 H =>
  andR (andB (ckV (aLoad .none H t72) t73) true) (
  pC call n_vm_doing_begin [t0, t73, t90] H fun _ H =>
  some (.tup [], H))) (pEql t15 (.int .i64 (.ofNat 24)) H fun t93 H =>
  onBool t93 (pO (aNil t0) H fun t97 H =>
  pFa 2 t97 H fun t98 H =>
  ldK .none H t98 fun t99 H =>
  pFa 1 t2 H fun t100 H =>
  ldK .none H t100 fun t101 H =>
  pFa 2 t2 H fun t103 H =>
  ldK .none H t103 fun t104 H =>
  pFa 3 t2 H fun t105 H =>
  ldK .none H t105 fun t106 H =>
  pC call n_frame_Stack_Get [t99, t101] H fun t102 H =>
  andR (andB (ckV (aLoad .none H t103) t104) (andB (ckV (aLoad .none H t105) t106) true)) (
  pC call n_vm_doing_closed [t0, t102, t104, t106, (.fn n_vm_doing_calls_c1 [] [])] H fun t108 H =>
  pExt t108 0 H fun t109 H =>
  pExt t108 1 H fun t110 H =>
  pExt t108 2 H fun t111 H =>
  onBool t111 (pC call n_vm_doing_begin [t0, t109, t110] H fun _ H =>
  some (.tup [], H)) (some (.tup [], H)))) (some (.tup [], H))))))
noncomputable def S_vm_doing_calls : Ff := ⟨fun call l H => argA1 (fun t0 => S_vm_doing_calls_0 call t0 H) l⟩
/- (*gantline/frame.Stack).Get -/
noncomputable def S_frame_Stack_Get_0 (_ : CallFn) (t1 t5 t14 t21 : AV) (H : AHeap) : R :=
  pPick t14 (.bool true) t21 H fun t22 H =>
  onBool t22 (some ((.int .i64 (.ofNat 0)), H)) (pO (aNil t5) H fun t24 H =>
  pFa 2 t24 H fun t25 H =>
  ldK .none H t25 fun t26 H =>
  pIa 1 t26 t1 H fun t28 H =>
  ldK .none H t28 fun t29 H =>
  some (t29, H))
noncomputable def S_frame_Stack_Get_1 (call : CallFn) (t1 t5 t10 t12 : AV) (H : AHeap) : R :=
  pPick t10 (.bool true) t12 H fun t13 H =>
  guardA t13 false (pO (aNil t5) H fun t17 H =>
  pFa 2 t17 H fun t18 H =>
  ldK .none H t18 fun t19 H =>
  pO (aLen .sl H t19) H fun t20 H =>
  pGeq t1 t20 H fun t21 H =>
  S_frame_Stack_Get_0 call t1 t5 t13 t21 H) (S_frame_Stack_Get_0 call t1 t5 t13 U H)
noncomputable def S_frame_Stack_Get_2 (call : CallFn) (t0 t1 : AV) (H : AHeap) : R :=
  pC call n_frame_Stack_top [t0] H fun t7 H =>
  pO (aEq false .ptr t7 .nilp) H fun t9 H =>
  guardA t9 false (pLss t1 (.int .i64 (.ofNat 0)) H fun t12 H =>
  S_frame_Stack_Get_1 call t1 t7 t9 t12 H) (S_frame_Stack_Get_1 call t1 t7 t9 U H)
noncomputable def S_frame_Stack_Get : Ff := ⟨fun call l H => argA2 (fun t0 t1 => S_frame_Stack_Get_2 call t0 t1 H) l⟩
/- (*gantline/vm.doing).on -/
noncomputable def S_vm_doing_on_0 (call : CallFn) (t0 : AV) (H : AHeap) : R :=
  pO (aNil t0) H fun t3 H =>
  pFa 2 t3 H fun t4 H =>
  ldK .none H t4 fun t5 H =>
  pO (aNil t0) H fun t7 H =>
  pFa 15 t7 H fun t8 H =>
  ldK .none H t8 fun t9 H =>
  pAdd t9 (.int .i64 (.ofNat 1)) H fun t10 H =>
  pC call n_frame_Stack_Jump [t5, t10] H fun _ H =>
  some (.tup [], H)
noncomputable def S_vm_doing_on : Ff := ⟨fun call l H => argA1 (fun t0 => S_vm_doing_on_0 call t0 H) l⟩
/- gantline/verify.module -/
noncomputable def S_verify_module_0 (_ : CallFn) (t79 t82 : AV) (H : AHeap) : R :=
  pPick t79 (.bool true) t82 H fun t83 H =>
  onBool t83 (some ((.int .i64 (.ofNat 2)), H)) (some ((.int .i64 (.ofNat 0)), H))
noncomputable def S_verify_module_1 (call : CallFn) (t5 t74 t77 : AV) (H : AHeap) : R :=
  pPick t74 (.bool true) t77 H fun t78 H =>
  guardA t78 false (pFa 3 t5 H fun t80 H =>
  ldK .none H t80 fun t81 H =>
  pNeq t81 (.int .i64 (.ofNat 0)) H fun t82 H =>
  S_verify_module_0 call t78 t82 H) (S_verify_module_0 call t78 U H)
noncomputable def S_verify_module_2 (call : CallFn) (t1 t57 t63 : AV) (H : AHeap) : R :=
  pPick t57 (.bool true) t63 H fun t64 H =>
  onBool t64 (some ((.int .i64 (.ofNat 2)), H)) (pFa 4 t1 H fun t65 H =>
  ldK .none H t65 fun t66 H =>
  pFa 5 t1 H fun t67 H =>
  ldK .none H t67 fun t68 H =>
  pIa 7 t66 t68 H fun t69 H =>
  ldK (.some 7) H t69 fun t70 H =>
  pNew [(.int .i64 (.ofNat 0)), (.int .i64 (.ofNat 0)), (.int .i64 (.ofNat 0)), (.int .i64 (.ofNat 0)), .nilsl, .nilsl, .nilsl] H fun t5 H =>
  stK 7 H t5 t70 fun _ H =>
  pFa 0 t5 H fun t71 H =>
  ldK .none H t71 fun t72 H =>
  pNeq t72 (.int .i64 (.ofNat 0)) H fun t73 H =>
  guardA t73 false (pFa 1 t5 H fun t75 H =>
  ldK .none H t75 fun t76 H =>
  pNeq t76 (.int .i64 (.ofNat 0)) H fun t77 H =>
  S_verify_module_1 call t5 t73 t77 H) (S_verify_module_1 call t5 t73 U H))
noncomputable def S_verify_module_3 (call : CallFn) (t1 t47 t51 : AV) (H : AHeap) : R :=
  pPick t47 (.bool true) t51 H fun t52 H =>
  onBool t52 (some ((.int .i64 (.ofNat 1)), H)) (pFa 5 t1 H fun t54 H =>
  ldK .none H t54 fun t55 H =>
  pLss t55 (.int .i64 (.ofNat 0)) H fun t56 H =>
  guardA t56 false (pFa 5 t1 H fun t58 H =>
  ldK .none H t58 fun t59 H =>
  pFa 4 t1 H fun t60 H =>
  ldK .none H t60 fun t61 H =>
  pO (aLen .sl H t61) H fun t62 H =>
  pGeq t59 t62 H fun t63 H =>
  S_verify_module_2 call t1 t56 t63 H) (S_verify_module_2 call t1 t56 U H))
noncomputable def S_verify_module_4 (call : CallFn) (t1 t41 t45 : AV) (H : AHeap) : R :=
  pPick t41 (.bool true) t45 H fun t46 H =>
  guardA t46 false (pFa 4 t1 H fun t48 H =>
  ldK .none H t48 fun t49 H =>
  pO (aLen .sl H t49) H fun t50 H =>
  pLss t50 (.int .i64 (.ofNat 1)) H fun t51 H =>
  S_verify_module_3 call t1 t46 t51 H) (S_verify_module_3 call t1 t46 U H)
noncomputable def S_verify_module_5 (call : CallFn) (t1 t35 t39 : AV) (H : AHeap) : R :=
  pPick t35 (.bool true) t39 H fun t40 H =>
  guardA t40 false (pFa 4 t1 H fun t42 H =>
  ldK .none H t42 fun t43 H =>
  pO (aLen .sl H t43) H fun t44 H =>
  pGtr t44 (.int .i64 (.ofNat 128)) H fun t45 H =>
  S_verify_module_4 call t1 t40 t45 H) (S_verify_module_4 call t1 t40 U H)
noncomputable def S_verify_module_6 (call : CallFn) (t1 t29 t33 : AV) (H : AHeap) : R :=
  pPick t29 (.bool true) t33 H fun t34 H =>
  guardA t34 false (pFa 3 t1 H fun t36 H =>
  ldK .none H t36 fun t37 H =>
  pO (aLen .sl H t37) H fun t38 H =>
  pGtr t38 (.int .i64 (.ofNat 1024)) H fun t39 H =>
  S_verify_module_5 call t1 t34 t39 H) (S_verify_module_5 call t1 t34 U H)
noncomputable def S_verify_module_7 (call : CallFn) (t1 t4 t23 t27 : AV) (H : AHeap) : R :=
  pPick t23 (.bool true) t27 H fun t28 H =>
  guardA t28 false (pFa 2 t1 H fun t30 H =>
  ldK .none H t30 fun t31 H =>
  pC call n_slices_ContainsFunc_int64 [t31, t4] H fun t33 H =>
  S_verify_module_6 call t1 t28 t33 H) (S_verify_module_6 call t1 t28 U H)
noncomputable def S_verify_module_8 (call : CallFn) (t1 t4 t17 t21 : AV) (H : AHeap) : R :=
  pPick t17 (.bool true) t21 H fun t22 H =>
  guardA t22 false (pFa 2 t1 H fun t24 H =>
  ldK .none H t24 fun t25 H =>
  pO (aLen .sl H t25) H fun t26 H =>
  pGtr t26 (.int .i64 (.ofNat 4096)) H fun t27 H =>
  S_verify_module_7 call t1 t4 t22 t27 H) (S_verify_module_7 call t1 t4 t22 U H)
noncomputable def S_verify_module_9 (call : CallFn) (t1 t4 t11 t15 : AV) (H : AHeap) : R :=
  pPick t11 (.bool true) t15 H fun t16 H =>
  guardA t16 false (pFa 1 t1 H fun t18 H =>
  ldK .none H t18 fun t19 H =>
  pO (aLen .sl H t19) H fun t20 H =>
  pGtr t20 (.int .i64 (.ofNat 256)) H fun t21 H =>
  S_verify_module_8 call t1 t4 t16 t21 H) (S_verify_module_8 call t1 t4 t16 U H)
noncomputable def S_verify_module_10 (call : CallFn) (t0 : AV) (H : AHeap) : R :=
  pBox t0 H fun t1 H =>
  pFa 0 t1 H fun t7 H =>
  ldK .none H t7 fun t8 H =>
  pC call n_slices_ContainsFunc_head_Shape [t8, (.fn n_verify_module_c1 [] [])] H fun t10 H =>
  guardA t10 false (pFa 0 t1 H fun t12 H =>
  ldK .none H t12 fun t13 H =>
  pO (aLen .sl H t13) H fun t14 H =>
  pGtr t14 (.int .i64 (.ofNat 1024)) H fun t15 H =>
  S_verify_module_9 call t1 (.fn n_verify_module_c2 [] []) t10 t15 H) (S_verify_module_9 call t1 (.fn n_verify_module_c2 [] []) t10 U H)
noncomputable def S_verify_module : Ff := ⟨fun call l H => argA1 (fun t0 => S_verify_module_10 call t0 H) l⟩
/- gantline/verify.whole -/
noncomputable def S_verify_whole_0 (_ : CallFn) (t73 t78 : AV) (H : AHeap) : R :=
  pPick t73 t78 (.bool false) H fun t79 H =>
  some (t79, H)
noncomputable def S_verify_whole_1 (call : CallFn) (t1 t3 t69 t71 : AV) (H : AHeap) : R :=
  pPick t69 t71 (.bool false) H fun t72 H =>
  guardA t72 true (pFa 6 t1 H fun t74 H =>
  ldK .none H t74 fun t75 H =>
  pO (aLen .sl H t75) H fun t76 H =>
  pEql t76 t3 H fun t78 H =>
  S_verify_whole_0 call t72 t78 H) (S_verify_whole_0 call t72 U H)
noncomputable def S_verify_whole_2 (call : CallFn) (t1 t3 t65 t67 : AV) (H : AHeap) : R :=
  pPick t65 t67 (.bool false) H fun t68 H =>
  guardA t68 true (pLeq t3 (.int .i64 (.ofNat 4096)) H fun t71 H =>
  S_verify_whole_1 call t1 t3 t68 t71 H) (S_verify_whole_1 call t1 t3 t68 U H)
noncomputable def S_verify_whole_3 (call : CallFn) (t1 t3 t60 t63 : AV) (H : AHeap) : R :=
  pPick t60 t63 (.bool false) H fun t64 H =>
  guardA t64 true (pGeq t3 (.int .i64 (.ofNat 1)) H fun t67 H =>
  S_verify_whole_2 call t1 t3 t64 t67 H) (S_verify_whole_2 call t1 t3 t64 U H)
noncomputable def S_verify_whole_4 (call : CallFn) (t1 t3 t55 t58 : AV) (H : AHeap) : R :=
  pPick t55 t58 (.bool false) H fun t59 H =>
  guardA t59 true (pFa 3 t1 H fun t61 H =>
  ldK .none H t61 fun t62 H =>
  pLeq t62 (.int .i64 (.ofNat 2)) H fun t63 H =>
  S_verify_whole_3 call t1 t3 t59 t63 H) (S_verify_whole_3 call t1 t3 t59 U H)
noncomputable def S_verify_whole_5 (call : CallFn) (t1 t3 t47 t53 : AV) (H : AHeap) : R :=
  pPick t47 t53 (.bool false) H fun t54 H =>
  guardA t54 true (pFa 3 t1 H fun t56 H =>
  ldK .none H t56 fun t57 H =>
  pGeq t57 (.int .i64 (.ofNat 0)) H fun t58 H =>
  S_verify_whole_4 call t1 t3 t54 t58 H) (S_verify_whole_4 call t1 t3 t54 U H)
noncomputable def S_verify_whole_6 (call : CallFn) (t1 t3 t37 t45 : AV) (H : AHeap) : R :=
  pPick t37 t45 (.bool false) H fun t46 H =>
  guardA t46 true (pFa 4 t1 H fun t48 H =>
  ldK .none H t48 fun t49 H =>
  pO (aLen .sl H t49) H fun t50 H =>
  pFa 2 t1 H fun t51 H =>
  ldK .none H t51 fun t52 H =>
  pEql t50 t52 H fun t53 H =>
  S_verify_whole_5 call t1 t3 t46 t53 H) (S_verify_whole_5 call t1 t3 t46 U H)
noncomputable def S_verify_whole_7 (call : CallFn) (t1 t3 t30 t35 : AV) (H : AHeap) : R :=
  pPick t30 t35 (.bool false) H fun t36 H =>
  guardA t36 true (pFa 1 t1 H fun t38 H =>
  ldK .none H t38 fun t39 H =>
  pFa 2 t1 H fun t40 H =>
  ldK .none H t40 fun t41 H =>
  pFa 0 t1 H fun t42 H =>
  ldK .none H t42 fun t43 H =>
  pSub t41 t43 H fun t44 H =>
  pLeq t39 t44 H fun t45 H =>
  S_verify_whole_6 call t1 t3 t36 t45 H) (S_verify_whole_6 call t1 t3 t36 U H)
noncomputable def S_verify_whole_8 (call : CallFn) (t1 t3 t25 t28 : AV) (H : AHeap) : R :=
  pPick t25 t28 (.bool false) H fun t29 H =>
  guardA t29 true (pFa 0 t1 H fun t31 H =>
  ldK .none H t31 fun t32 H =>
  pFa 2 t1 H fun t33 H =>
  ldK .none H t33 fun t34 H =>
  pLeq t32 t34 H fun t35 H =>
  S_verify_whole_7 call t1 t3 t29 t35 H) (S_verify_whole_7 call t1 t3 t29 U H)
noncomputable def S_verify_whole_9 (call : CallFn) (t1 t3 t20 t23 : AV) (H : AHeap) : R :=
  pPick t20 t23 (.bool false) H fun t24 H =>
  guardA t24 true (pFa 2 t1 H fun t26 H =>
  ldK .none H t26 fun t27 H =>
  pLeq t27 (.int .i64 (.ofNat 64)) H fun t28 H =>
  S_verify_whole_8 call t1 t3 t24 t28 H) (S_verify_whole_8 call t1 t3 t24 U H)
noncomputable def S_verify_whole_10 (call : CallFn) (t1 t3 t15 t18 : AV) (H : AHeap) : R :=
  pPick t15 t18 (.bool false) H fun t19 H =>
  guardA t19 true (pFa 2 t1 H fun t21 H =>
  ldK .none H t21 fun t22 H =>
  pGeq t22 (.int .i64 (.ofNat 0)) H fun t23 H =>
  S_verify_whole_9 call t1 t3 t19 t23 H) (S_verify_whole_9 call t1 t3 t19 U H)
noncomputable def S_verify_whole_11 (call : CallFn) (t1 t3 t10 t13 : AV) (H : AHeap) : R :=
  pPick t10 t13 (.bool false) H fun t14 H =>
  guardA t14 true (pFa 1 t1 H fun t16 H =>
  ldK .none H t16 fun t17 H =>
  pLeq t17 (.int .i64 (.ofNat 62)) H fun t18 H =>
  S_verify_whole_10 call t1 t3 t14 t18 H) (S_verify_whole_10 call t1 t3 t14 U H)
noncomputable def S_verify_whole_12 (call : CallFn) (t0 : AV) (H : AHeap) : R :=
  pBox t0 H fun t1 H =>
  pFa 5 t1 H fun t4 H =>
  ldK .none H t4 fun t5 H =>
  pO (aLen .sl H t5) H fun t6 H =>
  pFa 0 t1 H fun t7 H =>
  ldK .none H t7 fun t8 H =>
  pGeq t8 (.int .i64 (.ofNat 0)) H fun t9 H =>
  guardA t9 true (pFa 1 t1 H fun t11 H =>
  ldK .none H t11 fun t12 H =>
  pGeq t12 (.int .i64 (.ofNat 0)) H fun t13 H =>
  S_verify_whole_11 call t1 t6 t9 t13 H) (S_verify_whole_11 call t1 t6 t9 U H)
noncomputable def S_verify_whole : Ff := ⟨fun call l H => argA1 (fun t0 => S_verify_whole_12 call t0 H) l⟩
/- gantline/live.Maps -/
noncomputable def S_live_Maps_0 (_ : CallFn) (n : Nat) : AV → AV → AV → AV → AHeap → R :=
  Nat.rec (motive := fun _ => AV → AV → AV → AV → AHeap → R) (fun _ _ _ _ _ => none) (fun _ q0 t5 t8 t34 t35 H => pLss t35 t34 H fun t36 H =>
  onBool t36 (pIa 1 t8 t35 H fun t40 H =>
  ldK .none H t40 fun t41 H =>
  pAnd t41 t5 H fun t43 H =>
  pIa 1 t8 t35 H fun t44 H =>
  stK 1 H t44 t43 fun _ H =>
  pAdd t35 (.int .i64 (.ofNat 1)) H fun t45 H =>
  q0 t5 t8 t34 t45 H) (some (t8, H))) n
noncomputable def S_live_Maps_1 (call : CallFn) (t2 t3 t5 : AV) (H : AHeap) : R :=
  ldK (.some 6) H t2 fun t30 H =>
  ldK (.some 7) H t3 fun t31 H =>
  pC call n_live_Sets [t30, t31] H fun t32 H =>
  pO (aLen .sl H t32) H fun t34 H =>
  S_live_Maps_0 call 1000000 t5 t32 t34 (.int .i64 (.ofNat 0)) H
noncomputable def S_live_Maps_3 (_ : CallFn) (q1 : AV → AV → AV → AV → AV → AV → AHeap → R) (t2 t3 t5 t16 t17 t18 : AV) (H : AHeap) : R :=
  pAdd t18 (.int .i64 (.ofNat 1)) H fun t29 H =>
  q1 t2 t3 t5 t16 t17 t29 H
noncomputable def S_live_Maps_2 (call : CallFn) (n : Nat) : AV → AV → AV → AV → AV → AV → AHeap → R :=
  Nat.rec (motive := fun _ => AV → AV → AV → AV → AV → AV → AHeap → R) (fun _ _ _ _ _ _ _ => none) (fun _ q1 t2 t3 t5 t16 t17 t18 H => pLss t18 t17 H fun t19 H =>
  onBool t19 (pIa 1 t16 t18 H fun t21 H =>
  ldK .none H t21 fun t22 H =>
  onBool t22 (pConv .u64 t18 H fun t26 H =>
  pO (aBin .shl (.int .u64 (.ofNat 1)) t26) H fun t27 H =>
  pOr t5 t27 H fun t28 H =>
  S_live_Maps_3 call q1 t2 t3 t28 t16 t17 t18 H) (S_live_Maps_3 call q1 t2 t3 t5 t16 t17 t18 H)) (S_live_Maps_1 call t2 t3 t5 H)) n
noncomputable def S_live_Maps_4 (call : CallFn) (t0 t1 : AV) (H : AHeap) : R :=
  pBox t0 H fun t2 H =>
  pBox t1 H fun t3 H =>
  pFa 4 t3 H fun t10 H =>
  ldK .none H t10 fun t11 H =>
  pFa 4 t3 H fun t12 H =>
  ldK .none H t12 fun t13 H =>
  pO (aLen .sl H t13) H fun t14 H =>
  pO (aMinMax false t14 (.int .i64 (.ofNat 64))) H fun t15 H =>
  pO (aSlice 1 H t11 .none (.some t15) .none) H fun t16 H =>
  pO (aLen .sl H t16) H fun t17 H =>
  S_live_Maps_2 call 1000000 t2 t3 (.int .u64 (.ofNat 0)) t16 t17 (.int .i64 (.ofNat 0)) H
noncomputable def S_live_Maps : Ff := ⟨fun call l H => argA2 (fun t0 t1 => S_live_Maps_4 call t0 t1 H) l⟩
/- slices.Contains[[]int,int] -/
noncomputable def S_slices_Contains_int_0 (call : CallFn) (t0 t1 : AV) (H : AHeap) : R :=
  pC call n_slices_Index_int [t0, t1] H fun t7 H =>
  pGeq t7 (.int .i64 (.ofNat 0)) H fun t8 H =>
  some (t8, H)
noncomputable def S_slices_Contains_int : Ff := ⟨fun call l H => argA2 (fun t0 t1 => S_slices_Contains_int_0 call t0 t1 H) l⟩
/- (*gantline/verify.checker).rule -/
noncomputable def S_verify_checker_rule_0 (call : CallFn) (t0 t1 : AV) (H : AHeap) : R :=
  pEql t1 (.int .i64 (.ofNat 4)) H fun t7 H =>
  onBool t7 (pC call n_verify_checker_slots [t0] H fun t9 H =>
  some (t9, H)) (pEql t1 (.int .i64 (.ofNat 5)) H fun t11 H =>
  onBool t11 (pC call n_verify_checker_there [t0] H fun t13 H =>
  some (t13, H)) (pEql t1 (.int .i64 (.ofNat 6)) H fun t15 H =>
  onBool t15 (pC call n_verify_checker_kinds [t0] H fun t17 H =>
  some (t17, H)) (pEql t1 (.int .i64 (.ofNat 7)) H fun t19 H =>
  onBool t19 (pC call n_verify_checker_on [t0] H fun t21 H =>
  some (t21, H)) (pEql t1 (.int .i64 (.ofNat 8)) H fun t23 H =>
  onBool t23 (pC call n_verify_checker_back [t0] H fun t25 H =>
  some (t25, H)) (pEql t1 (.int .i64 (.ofNat 9)) H fun t27 H =>
  onBool t27 (pO (aNil t0) H fun t29 H =>
  pFa 6 t29 H fun t30 H =>
  pFa 6 t30 H fun t31 H =>
  ldK .none H t31 fun t32 H =>
  pO (aNil t0) H fun t34 H =>
  pFa 16 t34 H fun t35 H =>
  ldK .none H t35 fun t36 H =>
  pIa 1 t32 t36 H fun t37 H =>
  ldK .none H t37 fun t38 H =>
  pO (aNil t0) H fun t40 H =>
  pFa 13 t40 H fun t41 H =>
  ldK .none H t41 fun t42 H =>
  pO (aNil t0) H fun t44 H =>
  pFa 16 t44 H fun t45 H =>
  ldK .none H t45 fun t46 H =>
  pIa 1 t42 t46 H fun t47 H =>
  ldK .none H t47 fun t48 H =>
  pEql t38 t48 H fun t49 H =>
  some (t49, H)) (pC call n_verify_checker_bare [t0] H fun t51 H =>
  some (t51, H)))))))
noncomputable def S_verify_checker_rule : Ff := ⟨fun call l H => argA2 (fun t0 t1 => S_verify_checker_rule_0 call t0 t1 H) l⟩
/- (*gantline/arena.Arena).Spans -/
noncomputable def S_arena_Arena_Spans_0 (_ : CallFn) (t0 : AV) (H : AHeap) : R :=
  pO (aNil t0) H fun t4 H =>
  pFa 1 t4 H fun t5 H =>
  ldK .none H t5 fun t6 H =>
  pO (aLen .sl H t6) H fun t7 H =>
  some (t7, H)
noncomputable def S_arena_Arena_Spans : Ff := ⟨fun call l H => argA1 (fun t0 => S_arena_Arena_Spans_0 call t0 H) l⟩
/- gantline/grey.New -/
noncomputable def S_grey_New_0 (_ : CallFn) (H : AHeap) : R :=
  pO (someAgg (aFill [.nilsl] [])) H fun t1 H =>
  pBox t1 H fun t2 H =>
  some (t2, H)
noncomputable def S_grey_New : Ff := ⟨fun call l H => argA0 (S_grey_New_0 call H) l⟩
/- slices.IndexFunc[[]int,int] -/
noncomputable def S_slices_IndexFunc_int_0 (call : CallFn) (n : Nat) : AV → AV → AV → AV → AHeap → R :=
  Nat.rec (motive := fun _ => AV → AV → AV → AV → AHeap → R) (fun _ _ _ _ _ => none) (fun _ q0 t0 t1 t7 t8 H => pLss t8 t7 H fun t9 H =>
  onBool t9 (pIa 1 t0 t8 H fun t14 H =>
  ldK .none H t14 fun t15 H =>
  pV call t1 [t15] H fun t16 H =>
  onBool t16 (some (t8, H)) (pAdd t8 (.int .i64 (.ofNat 1)) H fun t18 H =>
  q0 t0 t1 t7 t18 H)) (some ((.int .i64 (.negSucc 0)), H))) n
noncomputable def S_slices_IndexFunc_int_1 (call : CallFn) (t0 t1 : AV) (H : AHeap) : R :=
  pO (aLen .sl H t0) H fun t7 H =>
  S_slices_IndexFunc_int_0 call 1000000 t0 t1 t7 (.int .i64 (.ofNat 0)) H
noncomputable def S_slices_IndexFunc_int : Ff := ⟨fun call l H => argA2 (fun t0 t1 => S_slices_IndexFunc_int_1 call t0 t1 H) l⟩
/- maps.Keys[map[int]*gantline/frame.Stack,int,*gantline/frame.Stack] -/
noncomputable def S_maps_Keys_int__frame_Stack_0 (_ : CallFn) (t0 : AV) (H : AHeap) : R :=
  pBox t0 H fun t1 H =>
  some ((.fn n_maps_Keys_int__frame_Stack_c1 [] [t1]), H)
noncomputable def S_maps_Keys_int__frame_Stack : Ff := ⟨fun call l H => argA1 (fun t0 => S_maps_Keys_int__frame_Stack_0 call t0 H) l⟩
/- math/bits.Len64 -/
noncomputable def S_math_bits_Len64_0 (_ : CallFn) (t0 t2 : AV) (H : AHeap) : R :=
  pConv .u8 t0 H fun t21 H =>
  pO (aIdxS (.str [0, 1, 2, 2, 3, 3, 3, 3, 4, 4, 4, 4, 4, 4, 4, 4, 5, 5, 5, 5, 5, 5, 5, 5, 5, 5, 5, 5, 5, 5, 5, 5, 6, 6, 6, 6, 6, 6, 6, 6, 6, 6, 6, 6, 6, 6, 6, 6, 6, 6, 6, 6, 6, 6, 6, 6, 6, 6, 6, 6, 6, 6, 6, 6, 7, 7, 7, 7, 7, 7, 7, 7, 7, 7, 7, 7, 7, 7, 7, 7, 7, 7, 7, 7, 7, 7, 7, 7, 7, 7, 7, 7, 7, 7, 7, 7, 7, 7, 7, 7, 7, 7, 7, 7, 7, 7, 7, 7, 7, 7, 7, 7, 7, 7, 7, 7, 7, 7, 7, 7, 7, 7, 7, 7, 7, 7, 7, 7, 8, 8, 8, 8, 8, 8, 8, 8, 8, 8, 8, 8, 8, 8, 8, 8, 8, 8, 8, 8, 8, 8, 8, 8, 8, 8, 8, 8, 8, 8, 8, 8, 8, 8, 8, 8, 8, 8, 8, 8, 8, 8, 8, 8, 8, 8, 8, 8, 8, 8, 8, 8, 8, 8, 8, 8, 8, 8, 8, 8, 8, 8, 8, 8, 8, 8, 8, 8, 8, 8, 8, 8, 8, 8, 8, 8, 8, 8, 8, 8, 8, 8, 8, 8, 8, 8, 8, 8, 8, 8, 8, 8, 8, 8, 8, 8, 8, 8, 8, 8, 8, 8, 8, 8, 8, 8, 8, 8, 8, 8, 8, 8, 8, 8, 8, 8, 8, 8, 8, 8, 8, 8, 8, 8, 8, 8, 8, 8]) t21) H fun t22 H =>
  pConv .i64 t22 H fun t23 H =>
  pAdd t2 t23 H fun t24 H =>
  some (t24, H)
noncomputable def S_math_bits_Len64_1 (call : CallFn) (t0 t2 : AV) (H : AHeap) : R :=
  pGeq t0 (.int .u64 (.ofNat 256)) H fun t14 H =>
  onBool t14 (pO (aBin .shr t0 (.int .u64 (.ofNat 8))) H fun t16 H =>
  pAdd t2 (.int .i64 (.ofNat 8)) H fun t18 H =>
  S_math_bits_Len64_0 call t16 t18 H) (S_math_bits_Len64_0 call t0 t2 H)
noncomputable def S_math_bits_Len64_2 (call : CallFn) (t0 t2 : AV) (H : AHeap) : R :=
  pGeq t0 (.int .u64 (.ofNat 65536)) H fun t8 H =>
  onBool t8 (pO (aBin .shr t0 (.int .u64 (.ofNat 16))) H fun t10 H =>
  pAdd t2 (.int .i64 (.ofNat 16)) H fun t12 H =>
  S_math_bits_Len64_1 call t10 t12 H) (S_math_bits_Len64_1 call t0 t2 H)
noncomputable def S_math_bits_Len64_3 (call : CallFn) (t0 : AV) (H : AHeap) : R :=
  pGeq t0 (.int .u64 (.ofNat 4294967296)) H fun t4 H =>
  onBool t4 (pO (aBin .shr t0 (.int .u64 (.ofNat 32))) H fun t6 H =>
  S_math_bits_Len64_2 call t6 (.int .i64 (.ofNat 32)) H) (S_math_bits_Len64_2 call t0 (.int .i64 (.ofNat 0)) H)
noncomputable def S_math_bits_Len64 : Ff := ⟨fun call l H => argA1 (fun t0 => S_math_bits_Len64_3 call t0 H) l⟩
/- (*gantline/vm.doing).give -/
noncomputable def S_vm_doing_give_0 (call : CallFn) (t0 t1 : AV) (H : AHeap) : R :=
  pO (aNil t0) H fun t5 H =>
  pFa 2 t5 H fun t6 H =>
  ldK .none H t6 fun t7 H =>
  pO (aNil t0) H fun t9 H =>
  pFa 3 t9 H fun t10 H =>
  pFa 1 t10 H fun t11 H =>
  ldK .none H t11 fun t12 H =>
  pC call n_frame_Stack_Set [t7, t12, t1] H fun _ H =>
  pC call n_vm_doing_on [t0] H fun _ H =>
  some (.tup [], H)
noncomputable def S_vm_doing_give : Ff := ⟨fun call l H => argA2 (fun t0 t1 => S_vm_doing_give_0 call t0 t1 H) l⟩
/- (*gantline/frame.Stack).Jump -/
noncomputable def S_frame_Stack_Jump_0 (call : CallFn) (t0 t1 : AV) (H : AHeap) : R :=
  pC call n_frame_Stack_top [t0] H fun t6 H =>
  pO (aEq true .ptr t6 .nilp) H fun t8 H =>
  onBool t8 (pO (aNil t6) H fun t11 H =>
  pFa 1 t11 H fun t12 H =>
  stK 1 H t12 t1 fun _ H =>
  some (.tup [], H)) (some (.tup [], H))
noncomputable def S_frame_Stack_Jump : Ff := ⟨fun call l H => argA2 (fun t0 t1 => S_frame_Stack_Jump_0 call t0 t1 H) l⟩
/- (*gantline/vm.doing).back -/
noncomputable def S_vm_doing_back_0 (call : CallFn) (t0 t3 : AV) (H : AHeap) : R :=
  pO (aNil t0) H fun t102 H =>
  pFa 2 t102 H fun t103 H =>
  ldK .none H t103 fun t104 H =>
  pFa 1 t3 H fun t105 H =>
  ldK .none H t105 fun t106 H =>
  pAdd t106 (.int .i64 (.ofNat 1)) H fun t107 H =>
  pC call n_frame_Stack_Jump [t104, t107] H fun _ H =>
  some (.tup [], H)
noncomputable def S_vm_doing_back_1 (call : CallFn) (t0 t2 t3 t5 t88 t91 : AV) (H : AHeap) : R :=
  pPick t88 t91 (.bool false) H fun t92 H =>
  onBool t92 (pO (aNil t0) H fun t94 H =>
  pFa 2 t94 H fun t95 H =>
  ldK .none H t95 fun t96 H =>
  pFa 1 t5 H fun t97 H =>
  ldK .none H t97 fun t98 H =>
  pC call n_frame_Stack_Set [t96, t98, t2] H fun _ H =>
  S_vm_doing_back_0 call t0 t3 H) (S_vm_doing_back_0 call t0 t3 H)
noncomputable def S_vm_doing_back_2 (call : CallFn) (t0 : AV) (H : AHeap) : R :=
  pO (aNil t0) H fun t8 H =>
  pFa 2 t8 H fun t9 H =>
  ldK .none H t9 fun t10 H =>
  pO (aNil t0) H fun t12 H =>
  pFa 3 t12 H fun t13 H =>
  pFa 1 t13 H fun t14 H =>
  ldK .none H t14 fun t15 H =>
  pC call n_frame_Stack_Get [t10, t15] H fun t16 H =>
  pO (aNil t0) H fun t18 H =>
  pFa 2 t18 H fun t19 H =>
  ldK .none H t19 fun t20 H =>
  pC call n_frame_Stack_Return [t20] H fun t21 H =>
  pO (aUn .not t21) H fun t22 H =>
  onBool t22 (pO (aNil t0) H fun t24 H =>
  pFa 0 t24 H fun t25 H =>
  ldK .none H t25 fun t26 H =>
  pO (aNil t26) H fun t27 H =>
  pFa 7 t27 H fun t28 H =>
  ldK .none H t28 fun t29 H =>
  pO (aNil t0) H fun t31 H =>
  pFa 1 t31 H fun t32 H =>
  ldK .none H t32 fun t33 H =>
  pC call n_sched_Table_Drop [t29, t33] H fun _ H =>
  pO (aNil t0) H fun t36 H =>
  pFa 0 t36 H fun t37 H =>
  ldK .none H t37 fun t38 H =>
  pO (aNil t38) H fun t39 H =>
  pFa 6 t39 H fun t40 H =>
  ldK .none H t40 fun t41 H =>
  pO (aNil t0) H fun t44 H =>
  pFa 1 t44 H fun t45 H =>
  ldK .none H t45 fun t46 H =>
  pC call n_heap_Heap_Cycle [t41] H fun t42 H =>
  andR (andB (ckV (aLoad .none H t45) t46) true) (
  pC call n_cycle_Cycle_Dies [t42, t46] H fun _ H =>
  pO (aNil t0) H fun t49 H =>
  pFa 1 t49 H fun t50 H =>
  ldK .none H t50 fun t51 H =>
  pEql t51 (.int .i64 (.ofNat 1)) H fun t52 H =>
  onBool t52 (pO (aNil t0) H fun t54 H =>
  pFa 0 t54 H fun t55 H =>
  ldK .none H t55 fun t56 H =>
  pO (aNil t56) H fun t57 H =>
  pFa 11 t57 H fun t58 H =>
  stK 1 H t58 (.int .i64 (.ofNat 1)) fun _ H =>
  some (.tup [], H)) (some (.tup [], H)))) (pO (aNil t0) H fun t61 H =>
  pFa 2 t61 H fun t62 H =>
  ldK .none H t62 fun t63 H =>
  pC call n_frame_Stack_Top [t63] H fun t64 H =>
  pExt t64 0 H fun t65 H =>
  pExt t64 1 H fun _ H =>
  pNew [(.int .i64 (.ofNat 0)), (.int .i64 (.ofNat 0)), .nilsl] H fun t3 H =>
  stK 3 H t3 t65 fun _ H =>
  pO (aNil t0) H fun t69 H =>
  pFa 2 t69 H fun t70 H =>
  ldK .none H t70 fun t71 H =>
  pO (aNil t0) H fun t73 H =>
  pFa 0 t73 H fun t74 H =>
  ldK .none H t74 fun t75 H =>
  pO (aNil t75) H fun t76 H =>
  pFa 0 t76 H fun t77 H =>
  ldK (.some 6) H t77 fun t78 H =>
  pNew [(.int .i64 (.ofNat 0)), (.int .i64 (.ofNat 0)), (.int .i64 (.ofNat 0)), (.int .i64 (.ofNat 0)), (.int .i64 (.ofNat 0))] H fun t5 H =>
  pC call n_frame_Stack_At [t71, t78] H fun t79 H =>
  pExt t79 0 H fun t80 H =>
  pExt t79 1 H fun _ H =>
  stK 5 H t5 t80 fun _ H =>
  pO (aNil t0) H fun t83 H =>
  pFa 3 t83 H fun t84 H =>
  pFa 1 t84 H fun t85 H =>
  ldK .none H t85 fun t86 H =>
  pNeq t86 (.int .i64 (.negSucc 0)) H fun t87 H =>
  guardA t87 true (pFa 1 t5 H fun t89 H =>
  ldK .none H t89 fun t90 H =>
  pNeq t90 (.int .i64 (.negSucc 0)) H fun t91 H =>
  S_vm_doing_back_1 call t0 t16 t3 t5 t87 t91 H) (S_vm_doing_back_1 call t0 t16 t3 t5 t87 U H))
noncomputable def S_vm_doing_back : Ff := ⟨fun call l H => argA1 (fun t0 => S_vm_doing_back_2 call t0 H) l⟩
/- gantline/verify.module$2 -/
noncomputable def S_verify_module_c2_0 (call : CallFn) (t0 : AV) (H : AHeap) : R :=
  pC call n_bits_Wrap [t0] H fun t4 H =>
  pNeq t4 t0 H fun t6 H =>
  some (t6, H)
noncomputable def S_verify_module_c2 : Ff := ⟨fun call l H => argA1 (fun t0 => S_verify_module_c2_0 call t0 H) l⟩
/- gantline/bits.Wrap -/
noncomputable def S_bits_Wrap_0 (_ : CallFn) (t0 : AV) (H : AHeap) : R :=
  pO (aBin .shl t0 (.int .u64 (.ofNat 1))) H fun t4 H =>
  pO (aBin .shr t4 (.int .u64 (.ofNat 1))) H fun t5 H =>
  some (t5, H)
noncomputable def S_bits_Wrap : Ff := ⟨fun call l H => argA1 (fun t0 => S_bits_Wrap_0 call t0 H) l⟩
/- slices.ContainsFunc[[]gantline/head.Shape,gantline/head.Shape] -/
noncomputable def S_slices_ContainsFunc_head_Shape_0 (call : CallFn) (t0 t1 : AV) (H : AHeap) : R :=
  pC call n_slices_IndexFunc_head_Shape [t0, t1] H fun t7 H =>
  pGeq t7 (.int .i64 (.ofNat 0)) H fun t8 H =>
  some (t8, H)
noncomputable def S_slices_ContainsFunc_head_Shape : Ff := ⟨fun call l H => argA2 (fun t0 t1 => S_slices_ContainsFunc_head_Shape_0 call t0 t1 H) l⟩
/- slices.ContainsFunc[[]int64,int64] -/
noncomputable def S_slices_ContainsFunc_int64_0 (call : CallFn) (t0 t1 : AV) (H : AHeap) : R :=
  pC call n_slices_IndexFunc_int64 [t0, t1] H fun t7 H =>
  pGeq t7 (.int .i64 (.ofNat 0)) H fun t8 H =>
  some (t8, H)
noncomputable def S_slices_ContainsFunc_int64 : Ff := ⟨fun call l H => argA2 (fun t0 t1 => S_slices_ContainsFunc_int64_0 call t0 t1 H) l⟩
/- gantline/live.Sets -/
noncomputable def S_live_Sets_0 (_ : CallFn) (t5 : AV) (H : AHeap) : R :=
  ldK .none H t5 fun t52 H =>
  some (t52, H)
noncomputable def S_live_Sets_3 (_ : CallFn) (q1 : AV → AV → AV → AV → AV → AV → AHeap → R) (t2 t3 t5 t6 t7 t8 : AV) (H : AHeap) : R :=
  pSub t8 (.int .i64 (.ofNat 1)) H fun t24 H =>
  q1 t2 t3 t5 t6 t7 t24 H
noncomputable def S_live_Sets_2 (call : CallFn) (q0 : AV → AV → AV → AV → AV → AHeap → R) (n : Nat) : AV → AV → AV → AV → AV → AV → AHeap → R :=
  Nat.rec (motive := fun _ => AV → AV → AV → AV → AV → AV → AHeap → R) (fun _ _ _ _ _ _ _ => none) (fun _ q1 t2 t3 t5 t6 t7 t8 H => pGeq t8 (.int .i64 (.ofNat 0)) H fun t22 H =>
  onBool t22 (pFa 5 t3 H fun t25 H =>
  ldK .none H t25 fun t26 H =>
  pIa 5 t26 t8 H fun t28 H =>
  ldK (.some 5) H t28 fun t29 H =>
  pNew [(.int .i64 (.ofNat 0)), (.int .i64 (.ofNat 0)), (.int .i64 (.ofNat 0)), (.int .i64 (.ofNat 0)), (.int .i64 (.ofNat 0))] H fun t9 H =>
  stK 5 H t9 t29 fun _ H =>
  ldK (.some 6) H t2 fun t30 H =>
  ldK (.some 5) H t9 fun t31 H =>
  ldK (.some 5) H t9 fun t37 H =>
  pC call n_live_Reads [t30, t31] H fun t32 H =>
  andR (andB (ckV (aLoad (.some 5) H t9) t37) true) (
  pC call n_live_bitsOf [t32] H fun t33 H =>
  andR (andB (ckV (aLoad (.some 5) H t9) t37) true) (
  pV call t6 [t8] H fun t36 H =>
  andR (andB (ckV (aLoad (.some 5) H t9) t37) true) (
  pC call n_live_Writes [t37] H fun t38 H =>
  pC call n_live_bitsOf [t38] H fun t39 H =>
  pAndN t36 t39 H fun t40 H =>
  pOr t33 t40 H fun t41 H =>
  ldK .none H t5 fun t43 H =>
  pIa 1 t43 t8 H fun t45 H =>
  ldK .none H t45 fun t46 H =>
  pNeq t41 t46 H fun t47 H =>
  onBool t47 (ldK .none H t5 fun t48 H =>
  pIa 1 t48 t8 H fun t51 H =>
  stK 1 H t51 t41 fun _ H =>
  S_live_Sets_3 call q1 t2 t3 t5 t6 (.bool true) t8 H) (S_live_Sets_3 call q1 t2 t3 t5 t6 t7 t8 H))))) (q0 t2 t3 t5 t6 t7 H)) n
noncomputable def S_live_Sets_1 (call : CallFn) (n : Nat) : AV → AV → AV → AV → AV → AHeap → R :=
  Nat.rec (motive := fun _ => AV → AV → AV → AV → AV → AHeap → R) (fun _ _ _ _ _ _ => none) (fun _ q0 t2 t3 t5 t6 t7 H => onBool t7 (pFa 5 t3 H fun t17 H =>
  ldK .none H t17 fun t18 H =>
  pO (aLen .sl H t18) H fun t19 H =>
  pSub t19 (.int .i64 (.ofNat 1)) H fun t20 H =>
  S_live_Sets_2 call q0 1000000 t2 t3 t5 t6 (.bool false) t20 H) (S_live_Sets_0 call t5 H)) n
noncomputable def S_live_Sets_4 (call : CallFn) (t0 t1 : AV) (H : AHeap) : R :=
  pBox t0 H fun t2 H =>
  pBox t1 H fun t3 H =>
  pFa 5 t3 H fun t11 H =>
  ldK .none H t11 fun t12 H =>
  pO (aLen .sl H t12) H fun t13 H =>
  pN (aMksl 1 8 [(.int .u64 (.ofNat 0))] t13 t13) H fun t14 H =>
  pNew [.nilsl] H fun t5 H =>
  stK 1 H t5 t14 fun _ H =>
  S_live_Sets_1 call 1000000 t2 t3 t5 (.fn n_live_Sets_c1 [] [t3, t2, t5]) (.bool true) H
noncomputable def S_live_Sets : Ff := ⟨fun call l H => argA2 (fun t0 t1 => S_live_Sets_4 call t0 t1 H) l⟩
/- slices.Index[[]int,int] -/
noncomputable def S_slices_Index_int_0 (_ : CallFn) (n : Nat) : AV → AV → AV → AV → AHeap → R :=
  Nat.rec (motive := fun _ => AV → AV → AV → AV → AHeap → R) (fun _ _ _ _ _ => none) (fun _ q0 t0 t1 t7 t8 H => pLss t8 t7 H fun t9 H =>
  onBool t9 (pIa 1 t0 t8 H fun t14 H =>
  ldK .none H t14 fun t15 H =>
  pEql t1 t15 H fun t16 H =>
  onBool t16 (some (t8, H)) (pAdd t8 (.int .i64 (.ofNat 1)) H fun t18 H =>
  q0 t0 t1 t7 t18 H)) (some ((.int .i64 (.negSucc 0)), H))) n
noncomputable def S_slices_Index_int_1 (call : CallFn) (t0 t1 : AV) (H : AHeap) : R :=
  pO (aLen .sl H t0) H fun t7 H =>
  S_slices_Index_int_0 call 1000000 t0 t1 t7 (.int .i64 (.ofNat 0)) H
noncomputable def S_slices_Index_int : Ff := ⟨fun call l H => argA2 (fun t0 t1 => S_slices_Index_int_1 call t0 t1 H) l⟩
/- (*gantline/verify.checker).slots -/
noncomputable def S_verify_checker_slots_0 (_ : CallFn) (t31 t39 : AV) (H : AHeap) : R :=
  pPick t31 t39 (.bool false) H fun t40 H =>
  some (t40, H)
noncomputable def S_verify_checker_slots_1 (call : CallFn) (t1 t31 t32 t33 t34 t38 : AV) (H : AHeap) : R :=
  andR (andB (gdB t31 true (ckV (aLoad .none H t1) t32)) (andB (gdB t31 true (ckV (aLoad .none H t33) t34)) true)) (
  guardA t31 true (pC call n_verify_checker_run [t32, t34, t38] H fun t39 H =>
  S_verify_checker_slots_0 call t31 t39 H) (S_verify_checker_slots_0 call t31 U H))
noncomputable def S_verify_checker_slots_2 (call : CallFn) (t1 t31 t32 t33 t34 t35 t37 : AV) (H : AHeap) : R :=
  guardA t31 true (pC call n_verify_checker_params [t35, t37] H fun t38 H =>
  S_verify_checker_slots_1 call t1 t31 t32 t33 t34 t38 H) (S_verify_checker_slots_1 call t1 t31 t32 t33 t34 U H)
noncomputable def S_verify_checker_slots_3 (call : CallFn) (t1 t31 t32 t33 t34 t35 t36 : AV) (H : AHeap) : R :=
  guardA t31 true (ldK .none H t36 fun t37 H =>
  S_verify_checker_slots_2 call t1 t31 t32 t33 t34 t35 t37 H) (S_verify_checker_slots_2 call t1 t31 t32 t33 t34 t35 U H)
noncomputable def S_verify_checker_slots_4 (call : CallFn) (t1 t3 t31 t32 t33 t34 t35 : AV) (H : AHeap) : R :=
  guardA t31 true (pFa 2 t3 H fun t36 H =>
  S_verify_checker_slots_3 call t1 t31 t32 t33 t34 t35 t36 H) (S_verify_checker_slots_3 call t1 t31 t32 t33 t34 t35 U H)
noncomputable def S_verify_checker_slots_5 (call : CallFn) (t1 t3 t31 t32 t33 t34 : AV) (H : AHeap) : R :=
  guardA t31 true (ldK .none H t1 fun t35 H =>
  S_verify_checker_slots_4 call t1 t3 t31 t32 t33 t34 t35 H) (S_verify_checker_slots_4 call t1 t3 t31 t32 t33 t34 U H)
noncomputable def S_verify_checker_slots_6 (call : CallFn) (t1 t3 t31 t32 t33 : AV) (H : AHeap) : R :=
  guardA t31 true (ldK .none H t33 fun t34 H =>
  S_verify_checker_slots_5 call t1 t3 t31 t32 t33 t34 H) (S_verify_checker_slots_5 call t1 t3 t31 t32 t33 U H)
noncomputable def S_verify_checker_slots_7 (call : CallFn) (t1 t3 t31 t32 : AV) (H : AHeap) : R :=
  guardA t31 true (pFa 3 t3 H fun t33 H =>
  S_verify_checker_slots_6 call t1 t3 t31 t32 t33 H) (S_verify_checker_slots_6 call t1 t3 t31 t32 U H)
noncomputable def S_verify_checker_slots_8 (_ : CallFn) (t54 t60 : AV) (H : AHeap) : R :=
  pPick t54 t60 (.bool false) H fun t61 H =>
  some (t61, H)
noncomputable def S_verify_checker_slots_9 (call : CallFn) (t1 t3 t48 t52 : AV) (H : AHeap) : R :=
  pPick t48 t52 (.bool false) H fun t53 H =>
  guardA t53 true (ldK .none H t1 fun t55 H =>
  pFa 3 t3 H fun t56 H =>
  ldK .none H t56 fun t57 H =>
  pFa 4 t3 H fun t58 H =>
  ldK .none H t58 fun t59 H =>
  pC call n_verify_checker_run [t55, t57, t59] H fun t60 H =>
  S_verify_checker_slots_8 call t53 t60 H) (S_verify_checker_slots_8 call t53 U H)
noncomputable def S_verify_checker_slots_10 (_ : CallFn) (t87 t93 : AV) (H : AHeap) : R :=
  pPick t87 t93 (.bool false) H fun t94 H =>
  some (t94, H)
noncomputable def S_verify_checker_slots_11 (_ : CallFn) (t109 t115 : AV) (H : AHeap) : R :=
  pPick t109 t115 (.bool false) H fun t116 H =>
  some (t116, H)
noncomputable def S_verify_checker_slots_12 (_ : CallFn) (t130 t134 : AV) (H : AHeap) : R :=
  pPick t130 t134 (.bool false) H fun t135 H =>
  some (t135, H)
noncomputable def S_verify_checker_slots_13 (call : CallFn) (t3 t4 t124 t128 : AV) (H : AHeap) : R :=
  pPick t124 t128 (.bool false) H fun t129 H =>
  guardA t129 true (ldK .none H t4 fun t131 H =>
  pFa 3 t3 H fun t132 H =>
  ldK .none H t132 fun t133 H =>
  pV call t131 [t133] H fun t134 H =>
  S_verify_checker_slots_12 call t129 t134 H) (S_verify_checker_slots_12 call t129 U H)
noncomputable def S_verify_checker_slots_14 (call : CallFn) (t1 t3 t4 t5 t20 t22 : AV) (H : AHeap) : R :=
  pPick t20 (.bool true) t22 H fun t23 H =>
  onBool t23 (some ((.bool false), H)) (pEql t5 (.int .i64 (.ofNat 20)) H fun t26 H =>
  onBool t26 (ldK .none H t4 fun t27 H =>
  pFa 1 t3 H fun t28 H =>
  ldK .none H t28 fun t29 H =>
  pV call t27 [t29] H fun t30 H =>
  guardA t30 true (ldK .none H t1 fun t32 H =>
  S_verify_checker_slots_7 call t1 t3 t30 t32 H) (S_verify_checker_slots_7 call t1 t3 t30 U H)) (pEql t5 (.int .i64 (.ofNat 21)) H fun t43 H =>
  onBool t43 (ldK .none H t4 fun t44 H =>
  pFa 1 t3 H fun t45 H =>
  ldK .none H t45 fun t46 H =>
  pV call t44 [t46] H fun t47 H =>
  guardA t47 true (ldK .none H t1 fun t49 H =>
  pFa 2 t3 H fun t50 H =>
  ldK .none H t50 fun t51 H =>
  pC call n_verify_checker_slot [t49, t51] H fun t52 H =>
  S_verify_checker_slots_9 call t1 t3 t47 t52 H) (S_verify_checker_slots_9 call t1 t3 t47 U H)) (pEql t5 (.int .i64 (.ofNat 22)) H fun t64 H =>
  onBool t64 (ldK .none H t4 fun t65 H =>
  pFa 1 t3 H fun t66 H =>
  ldK .none H t66 fun t67 H =>
  pV call t65 [t67] H fun t68 H =>
  some (t68, H)) (pEql t5 (.int .i64 (.ofNat 23)) H fun t71 H =>
  onBool t71 (ldK .none H t1 fun t72 H =>
  pFa 2 t3 H fun t73 H =>
  ldK .none H t73 fun t74 H =>
  ldK .none H t1 fun t75 H =>
  pFa 1 t3 H fun t76 H =>
  ldK .none H t76 fun t77 H =>
  pC call n_verify_checker_params [t75, t77] H fun t78 H =>
  andR (andB (ckV (aLoad .none H t1) t72) (andB (ckV (aLoad .none H t73) t74) true)) (
  pC call n_verify_checker_run [t72, t74, t78] H fun t79 H =>
  some (t79, H))) (pEql t5 (.int .i64 (.ofNat 24)) H fun t82 H =>
  onBool t82 (ldK .none H t1 fun t83 H =>
  pFa 1 t3 H fun t84 H =>
  ldK .none H t84 fun t85 H =>
  pC call n_verify_checker_slot [t83, t85] H fun t86 H =>
  guardA t86 true (ldK .none H t1 fun t88 H =>
  pFa 2 t3 H fun t89 H =>
  ldK .none H t89 fun t90 H =>
  pFa 3 t3 H fun t91 H =>
  ldK .none H t91 fun t92 H =>
  pC call n_verify_checker_run [t88, t90, t92] H fun t93 H =>
  S_verify_checker_slots_10 call t86 t93 H) (S_verify_checker_slots_10 call t86 U H)) (pEql t5 (.int .i64 (.ofNat 36)) H fun t97 H =>
  onBool t97 (ldK .none H t1 fun t99 H =>
  pFa 2 t3 H fun t100 H =>
  ldK .none H t100 fun t101 H =>
  pC call n_verify_checker_fn [t99, t101] H fun t102 H =>
  pExt t102 0 H fun t103 H =>
  pExt t102 1 H fun _ H =>
  pNew [(.int .i64 (.ofNat 0)), (.int .i64 (.ofNat 0)), (.int .i64 (.ofNat 0)), (.int .i64 (.ofNat 0)), .nilsl, .nilsl, .nilsl] H fun t6 H =>
  stK 7 H t6 t103 fun _ H =>
  ldK .none H t1 fun t105 H =>
  pFa 1 t3 H fun t106 H =>
  ldK .none H t106 fun t107 H =>
  pC call n_verify_checker_slot [t105, t107] H fun t108 H =>
  guardA t108 true (ldK .none H t1 fun t110 H =>
  pFa 3 t3 H fun t111 H =>
  ldK .none H t111 fun t112 H =>
  pFa 1 t6 H fun t113 H =>
  ldK .none H t113 fun t114 H =>
  pC call n_verify_checker_run [t110, t112, t114] H fun t115 H =>
  S_verify_checker_slots_11 call t108 t115 H) (S_verify_checker_slots_11 call t108 U H)) (pEql t5 (.int .i64 (.ofNat 39)) H fun t119 H =>
  onBool t119 (ldK .none H t4 fun t120 H =>
  pFa 1 t3 H fun t121 H =>
  ldK .none H t121 fun t122 H =>
  pV call t120 [t122] H fun t123 H =>
  guardA t123 true (ldK .none H t1 fun t125 H =>
  pFa 2 t3 H fun t126 H =>
  ldK .none H t126 fun t127 H =>
  pC call n_verify_checker_slot [t125, t127] H fun t128 H =>
  S_verify_checker_slots_13 call t3 t4 t123 t128 H) (S_verify_checker_slots_13 call t3 t4 t123 U H)) (pEql t5 (.int .i64 (.ofNat 41)) H fun t138 H =>
  onBool t138 (ldK .none H t1 fun t140 H =>
  pC call n_verify_checker_cases [t140] H fun t141 H =>
  pExt t141 0 H fun t142 H =>
  pExt t141 1 H fun _ H =>
  pC call n_slices_ContainsFunc_code_Case [t142, (.fn n_verify_checker_slots_c2 [] [t1, t4])] H fun t146 H =>
  pO (aUn .not t146) H fun t147 H =>
  some (t147, H)) (ldK .none H t1 fun t148 H =>
  pO (aNil t148) H fun t149 H =>
  pFa 0 t149 H fun t150 H =>
  ldK (.some 6) H t150 fun t151 H =>
  ldK (.some 5) H t3 fun t152 H =>
  ldK (.some 5) H t3 fun t154 H =>
  pC call n_live_Reads [t151, t152] H fun t153 H =>
  andR (andB (ckV (aLoad (.some 5) H t3) t154) true) (
  pC call n_live_Writes [t154] H fun t155 H =>
  pW (aApp 1 8 H t153 t155) fun t156 H =>
  pC call n_slices_ContainsFunc_int [t156, (.fn n_verify_checker_slots_c3 [] [t1])] H fun t158 H =>
  pO (aUn .not t158) H fun t159 H =>
  some (t159, H)))))))))))
noncomputable def S_verify_checker_slots_15 (call : CallFn) (t0 : AV) (H : AHeap) : R :=
  pBox t0 H fun t1 H =>
  ldK .none H t1 fun t10 H =>
  pO (aNil t10) H fun t11 H =>
  pFa 17 t11 H fun t12 H =>
  ldK (.some 5) H t12 fun t13 H =>
  pNew [(.int .i64 (.ofNat 0)), (.int .i64 (.ofNat 0)), (.int .i64 (.ofNat 0)), (.int .i64 (.ofNat 0)), (.int .i64 (.ofNat 0))] H fun t3 H =>
  stK 5 H t3 t13 fun _ H =>
  pNew [.nilfn] H fun t4 H =>
  stK 1 H t4 (.fn n_verify_checker_slots_c1 [] [t1]) fun _ H =>
  pFa 0 t3 H fun t15 H =>
  ldK .none H t15 fun t16 H =>
  pLss t16 (.int .i64 (.ofNat 0)) H fun t19 H =>
  guardA t19 false (pGtr t16 (.int .i64 (.ofNat 44)) H fun t22 H =>
  S_verify_checker_slots_14 call t1 t3 t4 t16 t19 t22 H) (S_verify_checker_slots_14 call t1 t3 t4 t16 t19 U H)
noncomputable def S_verify_checker_slots : Ff := ⟨fun call l H => argA1 (fun t0 => S_verify_checker_slots_15 call t0 H) l⟩
/- (*gantline/verify.checker).there -/
noncomputable def S_verify_checker_there_0 (_ : CallFn) (t21 t30 : AV) (H : AHeap) : R :=
  pPick t21 t30 (.bool false) H fun t31 H =>
  some (t31, H)
noncomputable def S_verify_checker_there_1 (call : CallFn) (t21 t23 t29 : AV) (H : AHeap) : R :=
  guardA t21 true (pLss t23 t29 H fun t30 H =>
  S_verify_checker_there_0 call t21 t30 H) (S_verify_checker_there_0 call t21 U H)
noncomputable def S_verify_checker_there_2 (call : CallFn) (t21 t23 t28 : AV) (H : AHeap) : R :=
  guardA t21 true (pO (aLen .sl H t28) H fun t29 H =>
  S_verify_checker_there_1 call t21 t23 t29 H) (S_verify_checker_there_1 call t21 t23 U H)
noncomputable def S_verify_checker_there_3 (call : CallFn) (t21 t23 t27 : AV) (H : AHeap) : R :=
  guardA t21 true (ldK .none H t27 fun t28 H =>
  S_verify_checker_there_2 call t21 t23 t28 H) (S_verify_checker_there_2 call t21 t23 U H)
noncomputable def S_verify_checker_there_4 (call : CallFn) (t21 t23 t26 : AV) (H : AHeap) : R :=
  guardA t21 true (pFa 2 t26 H fun t27 H =>
  S_verify_checker_there_3 call t21 t23 t27 H) (S_verify_checker_there_3 call t21 t23 U H)
noncomputable def S_verify_checker_there_5 (call : CallFn) (t21 t23 t25 : AV) (H : AHeap) : R :=
  guardA t21 true (pFa 0 t25 H fun t26 H =>
  S_verify_checker_there_4 call t21 t23 t26 H) (S_verify_checker_there_4 call t21 t23 U H)
noncomputable def S_verify_checker_there_6 (call : CallFn) (t21 t23 t24 : AV) (H : AHeap) : R :=
  guardA t21 true (pO (aNil t24) H fun t25 H =>
  S_verify_checker_there_5 call t21 t23 t25 H) (S_verify_checker_there_5 call t21 t23 U H)
noncomputable def S_verify_checker_there_7 (call : CallFn) (t0 t21 t23 : AV) (H : AHeap) : R :=
  guardA t21 true (S_verify_checker_there_6 call t21 t23 t0 H) (S_verify_checker_there_6 call t21 t23 U H)
noncomputable def S_verify_checker_there_8 (call : CallFn) (t0 t21 t22 : AV) (H : AHeap) : R :=
  guardA t21 true (ldK .none H t22 fun t23 H =>
  S_verify_checker_there_7 call t0 t21 t23 H) (S_verify_checker_there_7 call t0 t21 U H)
noncomputable def S_verify_checker_there_9 (_ : CallFn) (t55 t64 : AV) (H : AHeap) : R :=
  pPick t55 t64 (.bool false) H fun t65 H =>
  some (t65, H)
noncomputable def S_verify_checker_there_10 (call : CallFn) (t55 t57 t63 : AV) (H : AHeap) : R :=
  guardA t55 true (pLss t57 t63 H fun t64 H =>
  S_verify_checker_there_9 call t55 t64 H) (S_verify_checker_there_9 call t55 U H)
noncomputable def S_verify_checker_there_11 (call : CallFn) (t55 t57 t62 : AV) (H : AHeap) : R :=
  guardA t55 true (pO (aLen .sl H t62) H fun t63 H =>
  S_verify_checker_there_10 call t55 t57 t63 H) (S_verify_checker_there_10 call t55 t57 U H)
noncomputable def S_verify_checker_there_12 (call : CallFn) (t55 t57 t61 : AV) (H : AHeap) : R :=
  guardA t55 true (ldK .none H t61 fun t62 H =>
  S_verify_checker_there_11 call t55 t57 t62 H) (S_verify_checker_there_11 call t55 t57 U H)
noncomputable def S_verify_checker_there_13 (call : CallFn) (t55 t57 t60 : AV) (H : AHeap) : R :=
  guardA t55 true (pFa 1 t60 H fun t61 H =>
  S_verify_checker_there_12 call t55 t57 t61 H) (S_verify_checker_there_12 call t55 t57 U H)
noncomputable def S_verify_checker_there_14 (call : CallFn) (t55 t57 t59 : AV) (H : AHeap) : R :=
  guardA t55 true (pFa 0 t59 H fun t60 H =>
  S_verify_checker_there_13 call t55 t57 t60 H) (S_verify_checker_there_13 call t55 t57 U H)
noncomputable def S_verify_checker_there_15 (call : CallFn) (t55 t57 t58 : AV) (H : AHeap) : R :=
  guardA t55 true (pO (aNil t58) H fun t59 H =>
  S_verify_checker_there_14 call t55 t57 t59 H) (S_verify_checker_there_14 call t55 t57 U H)
noncomputable def S_verify_checker_there_16 (call : CallFn) (t0 t55 t57 : AV) (H : AHeap) : R :=
  guardA t55 true (S_verify_checker_there_15 call t55 t57 t0 H) (S_verify_checker_there_15 call t55 t57 U H)
noncomputable def S_verify_checker_there_17 (call : CallFn) (t0 t55 t56 : AV) (H : AHeap) : R :=
  guardA t55 true (ldK .none H t56 fun t57 H =>
  S_verify_checker_there_16 call t0 t55 t57 H) (S_verify_checker_there_16 call t0 t55 U H)
noncomputable def S_verify_checker_there_18 (_ : CallFn) (t71 t80 : AV) (H : AHeap) : R :=
  pPick t71 t80 (.bool false) H fun t81 H =>
  some (t81, H)
noncomputable def S_verify_checker_there_19 (call : CallFn) (t71 t73 t79 : AV) (H : AHeap) : R :=
  guardA t71 true (pLss t73 t79 H fun t80 H =>
  S_verify_checker_there_18 call t71 t80 H) (S_verify_checker_there_18 call t71 U H)
noncomputable def S_verify_checker_there_20 (call : CallFn) (t71 t73 t78 : AV) (H : AHeap) : R :=
  guardA t71 true (pO (aLen .sl H t78) H fun t79 H =>
  S_verify_checker_there_19 call t71 t73 t79 H) (S_verify_checker_there_19 call t71 t73 U H)
noncomputable def S_verify_checker_there_21 (call : CallFn) (t71 t73 t77 : AV) (H : AHeap) : R :=
  guardA t71 true (ldK .none H t77 fun t78 H =>
  S_verify_checker_there_20 call t71 t73 t78 H) (S_verify_checker_there_20 call t71 t73 U H)
noncomputable def S_verify_checker_there_22 (call : CallFn) (t71 t73 t76 : AV) (H : AHeap) : R :=
  guardA t71 true (pFa 1 t76 H fun t77 H =>
  S_verify_checker_there_21 call t71 t73 t77 H) (S_verify_checker_there_21 call t71 t73 U H)
noncomputable def S_verify_checker_there_23 (call : CallFn) (t71 t73 t75 : AV) (H : AHeap) : R :=
  guardA t71 true (pFa 0 t75 H fun t76 H =>
  S_verify_checker_there_22 call t71 t73 t76 H) (S_verify_checker_there_22 call t71 t73 U H)
noncomputable def S_verify_checker_there_24 (call : CallFn) (t71 t73 t74 : AV) (H : AHeap) : R :=
  guardA t71 true (pO (aNil t74) H fun t75 H =>
  S_verify_checker_there_23 call t71 t73 t75 H) (S_verify_checker_there_23 call t71 t73 U H)
noncomputable def S_verify_checker_there_25 (call : CallFn) (t0 t71 t73 : AV) (H : AHeap) : R :=
  guardA t71 true (S_verify_checker_there_24 call t71 t73 t0 H) (S_verify_checker_there_24 call t71 t73 U H)
noncomputable def S_verify_checker_there_26 (call : CallFn) (t0 t71 t72 : AV) (H : AHeap) : R :=
  guardA t71 true (ldK .none H t72 fun t73 H =>
  S_verify_checker_there_25 call t0 t71 t73 H) (S_verify_checker_there_25 call t0 t71 U H)
noncomputable def S_verify_checker_there_27 (_ : CallFn) (t92 t95 : AV) (H : AHeap) : R :=
  pPick t92 t95 (.bool false) H fun t96 H =>
  some (t96, H)
noncomputable def S_verify_checker_there_28 (_ : CallFn) (t112 t115 : AV) (H : AHeap) : R :=
  pPick t112 t115 (.bool false) H fun t116 H =>
  some (t116, H)
noncomputable def S_verify_checker_there_29 (call : CallFn) (t6 t107 t110 : AV) (H : AHeap) : R :=
  pPick t107 t110 (.bool false) H fun t111 H =>
  guardA t111 true (pFa 3 t6 H fun t113 H =>
  ldK .none H t113 fun t114 H =>
  pEql t114 (.int .i64 (.ofNat 0)) H fun t115 H =>
  S_verify_checker_there_28 call t111 t115 H) (S_verify_checker_there_28 call t111 U H)
noncomputable def S_verify_checker_there_30 (_ : CallFn) (t142 t145 : AV) (H : AHeap) : R :=
  pPick t142 t145 (.bool false) H fun t146 H =>
  some (t146, H)
noncomputable def S_verify_checker_there_31 (call : CallFn) (t0 : AV) (H : AHeap) : R :=
  pO (aNil t0) H fun t11 H =>
  pFa 17 t11 H fun t12 H =>
  ldK (.some 5) H t12 fun t13 H =>
  pNew [(.int .i64 (.ofNat 0)), (.int .i64 (.ofNat 0)), (.int .i64 (.ofNat 0)), (.int .i64 (.ofNat 0)), (.int .i64 (.ofNat 0))] H fun t3 H =>
  stK 5 H t3 t13 fun _ H =>
  pFa 0 t3 H fun t14 H =>
  ldK .none H t14 fun t15 H =>
  pEql t15 (.int .i64 (.ofNat 0)) H fun t17 H =>
  onBool t17 (pFa 2 t3 H fun t18 H =>
  ldK .none H t18 fun t19 H =>
  pGeq t19 (.int .i64 (.ofNat 0)) H fun t20 H =>
  guardA t20 true (pFa 2 t3 H fun t22 H =>
  S_verify_checker_there_8 call t0 t20 t22 H) (S_verify_checker_there_8 call t0 t20 U H)) (pEql t15 (.int .i64 (.ofNat 25)) H fun t33 H =>
  onBool t33 (pFa 2 t3 H fun t35 H =>
  ldK .none H t35 fun t36 H =>
  pC call n_verify_checker_shape [t0, t36, (.int .i64 (.ofNat 0))] H fun t37 H =>
  some (t37, H)) (pEql t15 (.int .i64 (.ofNat 26)) H fun t39 H =>
  onBool t39 (pFa 2 t3 H fun t41 H =>
  ldK .none H t41 fun t42 H =>
  pC call n_verify_checker_shape [t0, t42, (.int .i64 (.ofNat 1))] H fun t43 H =>
  some (t43, H)) (pEql t15 (.int .i64 (.ofNat 37)) H fun t45 H =>
  onBool t45 (pFa 2 t3 H fun t47 H =>
  ldK .none H t47 fun t48 H =>
  pC call n_verify_checker_shape [t0, t48, (.int .i64 (.ofNat 3))] H fun t49 H =>
  some (t49, H)) (pEql t15 (.int .i64 (.ofNat 34)) H fun t51 H =>
  onBool t51 (pFa 2 t3 H fun t52 H =>
  ldK .none H t52 fun t53 H =>
  pGeq t53 (.int .i64 (.ofNat 0)) H fun t54 H =>
  guardA t54 true (pFa 2 t3 H fun t56 H =>
  S_verify_checker_there_17 call t0 t54 t56 H) (S_verify_checker_there_17 call t0 t54 U H)) (pEql t15 (.int .i64 (.ofNat 35)) H fun t67 H =>
  onBool t67 (pFa 1 t3 H fun t68 H =>
  ldK .none H t68 fun t69 H =>
  pGeq t69 (.int .i64 (.ofNat 0)) H fun t70 H =>
  guardA t70 true (pFa 1 t3 H fun t72 H =>
  S_verify_checker_there_26 call t0 t70 t72 H) (S_verify_checker_there_26 call t0 t70 U H)) (pEql t15 (.int .i64 (.ofNat 20)) H fun t83 H =>
  onBool t83 (pFa 2 t3 H fun t86 H =>
  ldK .none H t86 fun t87 H =>
  pC call n_verify_checker_fn [t0, t87] H fun t88 H =>
  pExt t88 0 H fun t89 H =>
  pExt t88 1 H fun t90 H =>
  pNew [(.int .i64 (.ofNat 0)), (.int .i64 (.ofNat 0)), (.int .i64 (.ofNat 0)), (.int .i64 (.ofNat 0)), .nilsl, .nilsl, .nilsl] H fun t4 H =>
  stK 7 H t4 t89 fun _ H =>
  guardA t90 true (pFa 1 t4 H fun t93 H =>
  ldK .none H t93 fun t94 H =>
  pEql t94 (.int .i64 (.ofNat 0)) H fun t95 H =>
  S_verify_checker_there_27 call t90 t95 H) (S_verify_checker_there_27 call t90 U H)) (pEql t15 (.int .i64 (.ofNat 23)) H fun t98 H =>
  onBool t98 (pFa 1 t3 H fun t101 H =>
  ldK .none H t101 fun t102 H =>
  pC call n_verify_checker_fn [t0, t102] H fun t103 H =>
  pExt t103 0 H fun t104 H =>
  pExt t103 1 H fun t105 H =>
  pNew [(.int .i64 (.ofNat 0)), (.int .i64 (.ofNat 0)), (.int .i64 (.ofNat 0)), (.int .i64 (.ofNat 0)), .nilsl, .nilsl, .nilsl] H fun t6 H =>
  stK 7 H t6 t104 fun _ H =>
  guardA t105 true (pFa 1 t6 H fun t108 H =>
  ldK .none H t108 fun t109 H =>
  pEql t109 (.int .i64 (.ofNat 0)) H fun t110 H =>
  S_verify_checker_there_29 call t6 t105 t110 H) (S_verify_checker_there_29 call t6 t105 U H)) (pEql t15 (.int .i64 (.ofNat 36)) H fun t118 H =>
  onBool t118 (pFa 2 t3 H fun t121 H =>
  ldK .none H t121 fun t122 H =>
  pC call n_verify_checker_fn [t0, t122] H fun t123 H =>
  pExt t123 0 H fun t124 H =>
  pExt t123 1 H fun t125 H =>
  pNew [(.int .i64 (.ofNat 0)), (.int .i64 (.ofNat 0)), (.int .i64 (.ofNat 0)), (.int .i64 (.ofNat 0)), .nilsl, .nilsl, .nilsl] H fun t8 H =>
  stK 7 H t8 t124 fun _ H =>
  some (t125, H)) (pEql t15 (.int .i64 (.ofNat 21)) H fun t128 H =>
  onBool t128 (pFa 4 t3 H fun t129 H =>
  ldK .none H t129 fun t130 H =>
  pGeq t130 (.int .i64 (.ofNat 0)) H fun t131 H =>
  some (t131, H)) (pEql t15 (.int .i64 (.ofNat 24)) H fun t133 H =>
  onBool t133 (pFa 3 t3 H fun t134 H =>
  ldK .none H t134 fun t135 H =>
  pGeq t135 (.int .i64 (.ofNat 0)) H fun t136 H =>
  some (t136, H)) (pEql t15 (.int .i64 (.ofNat 44)) H fun t138 H =>
  onBool t138 (pFa 1 t3 H fun t139 H =>
  ldK .none H t139 fun t140 H =>
  pGeq t140 (.int .i64 (.ofNat 1)) H fun t141 H =>
  guardA t141 true (pFa 1 t3 H fun t143 H =>
  ldK .none H t143 fun t144 H =>
  pLeq t144 (.int .i64 (.ofNat 6)) H fun t145 H =>
  S_verify_checker_there_30 call t141 t145 H) (S_verify_checker_there_30 call t141 U H)) (pEql t15 (.int .i64 (.ofNat 41)) H fun t148 H =>
  onBool t148 (pC call n_verify_checker_fresh [t0] H fun t150 H =>
  some (t150, H)) (some ((.bool true), H))))))))))))))
noncomputable def S_verify_checker_there : Ff := ⟨fun call l H => argA1 (fun t0 => S_verify_checker_there_31 call t0 H) l⟩
/- (*gantline/verify.checker).kinds -/
noncomputable def S_verify_checker_kinds_0 (_ : CallFn) (t86 t93 : AV) (H : AHeap) : R :=
  pPick t86 t93 (.bool false) H fun t94 H =>
  some (t94, H)
noncomputable def S_verify_checker_kinds_1 (_ : CallFn) (t117 t122 : AV) (H : AHeap) : R :=
  pPick t117 t122 (.bool false) H fun t123 H =>
  some (t123, H)
noncomputable def S_verify_checker_kinds_2 (_ : CallFn) (t164 t169 : AV) (H : AHeap) : R :=
  pPick t164 t169 (.bool false) H fun t170 H =>
  some (t170, H)
noncomputable def S_verify_checker_kinds_3 (_ : CallFn) (t183 t188 : AV) (H : AHeap) : R :=
  pPick t183 t188 (.bool false) H fun t189 H =>
  some (t189, H)
noncomputable def S_verify_checker_kinds_4 (_ : CallFn) (t198 t203 : AV) (H : AHeap) : R :=
  pPick t198 t203 (.bool false) H fun t204 H =>
  some (t204, H)
noncomputable def S_verify_checker_kinds_5 (_ : CallFn) (t247 t257 : AV) (H : AHeap) : R :=
  pPick t247 t257 (.bool false) H fun t258 H =>
  some (t258, H)
noncomputable def S_verify_checker_kinds_6 (call : CallFn) (t247 t251 t256 : AV) (H : AHeap) : R :=
  guardA t247 true (pPick t251 (.bool true) t256 H fun t257 H =>
  S_verify_checker_kinds_5 call t247 t257 H) (S_verify_checker_kinds_5 call t247 U H)
noncomputable def S_verify_checker_kinds_7 (call : CallFn) (t1 t3 t247 t251 : AV) (H : AHeap) : R :=
  guardA t251 false (ldK .none H t1 fun t252 H =>
  pFa 3 t3 H fun t253 H =>
  ldK .none H t253 fun t254 H =>
  pN (aBsl 1 1 [(.int .i64 (.ofNat 0))] [(0, 1, t254)]) H fun t255 H =>
  pC call n_verify_checker_is [t252, (.bool false), t255] H fun t256 H =>
  S_verify_checker_kinds_6 call t247 t251 t256 H) (S_verify_checker_kinds_6 call t247 t251 U H)
noncomputable def S_verify_checker_kinds_8 (call : CallFn) (t1 t3 t4 t174 t176 : AV) (H : AHeap) : R :=
  pPick t174 (.bool true) t176 H fun t177 H =>
  onBool t177 (ldK .none H t1 fun t178 H =>
  pFa 1 t3 H fun t179 H =>
  ldK .none H t179 fun t180 H =>
  pN (aBsl 1 1 [(.int .i64 (.ofNat 0))] [(0, 1, t180)]) H fun t181 H =>
  pC call n_verify_checker_is [t178, (.bool true), t181] H fun t182 H =>
  guardA t182 true (ldK .none H t1 fun t184 H =>
  pFa 2 t3 H fun t185 H =>
  ldK .none H t185 fun t186 H =>
  pN (aBsl 1 1 [(.int .i64 (.ofNat 0))] [(0, 1, t186)]) H fun t187 H =>
  pC call n_verify_checker_is [t184, (.bool false), t187] H fun t188 H =>
  S_verify_checker_kinds_3 call t182 t188 H) (S_verify_checker_kinds_3 call t182 U H)) (pEql t4 (.int .i64 (.ofNat 33)) H fun t192 H =>
  onBool t192 (ldK .none H t1 fun t193 H =>
  pFa 1 t3 H fun t194 H =>
  ldK .none H t194 fun t195 H =>
  pN (aBsl 1 1 [(.int .i64 (.ofNat 0))] [(0, 1, t195)]) H fun t196 H =>
  pC call n_verify_checker_is [t193, (.bool false), t196] H fun t197 H =>
  guardA t197 true (ldK .none H t1 fun t199 H =>
  pFa 2 t3 H fun t200 H =>
  ldK .none H t200 fun t201 H =>
  pN (aBsl 1 1 [(.int .i64 (.ofNat 0))] [(0, 1, t201)]) H fun t202 H =>
  pC call n_verify_checker_is [t199, (.bool true), t202] H fun t203 H =>
  S_verify_checker_kinds_4 call t197 t203 H) (S_verify_checker_kinds_4 call t197 U H)) (pEql t4 (.int .i64 (.ofNat 34)) H fun t207 H =>
  onBool t207 (ldK .none H t1 fun t208 H =>
  ldK .none H t1 fun t209 H =>
  pO (aNil t209) H fun t210 H =>
  pFa 0 t210 H fun t211 H =>
  pFa 1 t211 H fun t212 H =>
  ldK .none H t212 fun t213 H =>
  pFa 2 t3 H fun t214 H =>
  ldK .none H t214 fun t215 H =>
  pIa 1 t213 t215 H fun t216 H =>
  ldK .none H t216 fun t217 H =>
  pFa 1 t3 H fun t218 H =>
  ldK .none H t218 fun t219 H =>
  pN (aBsl 1 1 [(.int .i64 (.ofNat 0))] [(0, 1, t219)]) H fun t220 H =>
  pC call n_verify_checker_is [t208, t217, t220] H fun t221 H =>
  some (t221, H)) (pEql t4 (.int .i64 (.ofNat 35)) H fun t224 H =>
  onBool t224 (ldK .none H t1 fun t225 H =>
  ldK .none H t1 fun t226 H =>
  pO (aNil t226) H fun t227 H =>
  pFa 0 t227 H fun t228 H =>
  pFa 1 t228 H fun t229 H =>
  ldK .none H t229 fun t230 H =>
  pFa 1 t3 H fun t231 H =>
  ldK .none H t231 fun t232 H =>
  pIa 1 t230 t232 H fun t233 H =>
  ldK .none H t233 fun t234 H =>
  pFa 2 t3 H fun t235 H =>
  ldK .none H t235 fun t236 H =>
  pN (aBsl 1 1 [(.int .i64 (.ofNat 0))] [(0, 1, t236)]) H fun t237 H =>
  pC call n_verify_checker_is [t225, t234, t237] H fun t238 H =>
  some (t238, H)) (pEql t4 (.int .i64 (.ofNat 39)) H fun t241 H =>
  onBool t241 (ldK .none H t1 fun t242 H =>
  pFa 2 t3 H fun t243 H =>
  ldK .none H t243 fun t244 H =>
  pN (aBsl 1 1 [(.int .i64 (.ofNat 0))] [(0, 1, t244)]) H fun t245 H =>
  pC call n_verify_checker_is [t242, (.bool true), t245] H fun t246 H =>
  guardA t246 true (pFa 3 t3 H fun t248 H =>
  ldK .none H t248 fun t249 H =>
  pEql t249 (.int .i64 (.negSucc 0)) H fun t250 H =>
  S_verify_checker_kinds_7 call t1 t3 t246 t250 H) (S_verify_checker_kinds_7 call t1 t3 t246 U H)) (pEql t4 (.int .i64 (.ofNat 41)) H fun t261 H =>
  onBool t261 (ldK .none H t1 fun t263 H =>
  pC call n_verify_checker_cases [t263] H fun t264 H =>
  pExt t264 0 H fun t265 H =>
  pExt t264 1 H fun _ H =>
  pC call n_slices_ContainsFunc_code_Case [t265, (.fn n_verify_checker_kinds_c1 [] [t1])] H fun t269 H =>
  pO (aUn .not t269) H fun t270 H =>
  some (t270, H)) (ldK .none H t1 fun t271 H =>
  pC call n_verify_checker_calls [t271] H fun t272 H =>
  some (t272, H)))))))
noncomputable def S_verify_checker_kinds_9 (call : CallFn) (t1 t3 t4 t147 t149 : AV) (H : AHeap) : R :=
  pPick t147 (.bool true) t149 H fun t150 H =>
  onBool t150 (ldK .none H t1 fun t151 H =>
  pFa 1 t3 H fun t152 H =>
  ldK .none H t152 fun t153 H =>
  pN (aBsl 1 1 [(.int .i64 (.ofNat 0))] [(0, 1, t153)]) H fun t154 H =>
  pC call n_verify_checker_is [t151, (.bool true), t154] H fun t155 H =>
  some (t155, H)) (pEql t4 (.int .i64 (.ofNat 30)) H fun t158 H =>
  onBool t158 (ldK .none H t1 fun t159 H =>
  pFa 2 t3 H fun t160 H =>
  ldK .none H t160 fun t161 H =>
  pN (aBsl 1 1 [(.int .i64 (.ofNat 0))] [(0, 1, t161)]) H fun t162 H =>
  pC call n_verify_checker_is [t159, (.bool true), t162] H fun t163 H =>
  guardA t163 true (ldK .none H t1 fun t165 H =>
  pFa 3 t3 H fun t166 H =>
  ldK .none H t166 fun t167 H =>
  pN (aBsl 1 1 [(.int .i64 (.ofNat 0))] [(0, 1, t167)]) H fun t168 H =>
  pC call n_verify_checker_is [t165, (.bool false), t168] H fun t169 H =>
  S_verify_checker_kinds_2 call t163 t169 H) (S_verify_checker_kinds_2 call t163 U H)) (pEql t4 (.int .i64 (.ofNat 31)) H fun t173 H =>
  guardA t173 false (pEql t4 (.int .i64 (.ofNat 32)) H fun t176 H =>
  S_verify_checker_kinds_8 call t1 t3 t4 t173 t176 H) (S_verify_checker_kinds_8 call t1 t3 t4 t173 U H)))
noncomputable def S_verify_checker_kinds_10 (call : CallFn) (t1 t3 t4 t143 t145 : AV) (H : AHeap) : R :=
  pPick t143 (.bool true) t145 H fun t146 H =>
  guardA t146 false (pEql t4 (.int .i64 (.ofNat 38)) H fun t149 H =>
  S_verify_checker_kinds_9 call t1 t3 t4 t146 t149 H) (S_verify_checker_kinds_9 call t1 t3 t4 t146 U H)
noncomputable def S_verify_checker_kinds_11 (call : CallFn) (t1 t3 t4 t139 t141 : AV) (H : AHeap) : R :=
  pPick t139 (.bool true) t141 H fun t142 H =>
  guardA t142 false (pEql t4 (.int .i64 (.ofNat 24)) H fun t145 H =>
  S_verify_checker_kinds_10 call t1 t3 t4 t142 t145 H) (S_verify_checker_kinds_10 call t1 t3 t4 t142 U H)
noncomputable def S_verify_checker_kinds_12 (call : CallFn) (t1 t3 t4 t127 t129 : AV) (H : AHeap) : R :=
  pPick t127 (.bool true) t129 H fun t130 H =>
  onBool t130 (ldK .none H t1 fun t131 H =>
  pFa 2 t3 H fun t132 H =>
  ldK .none H t132 fun t133 H =>
  pN (aBsl 1 1 [(.int .i64 (.ofNat 0))] [(0, 1, t133)]) H fun t134 H =>
  pC call n_verify_checker_is [t131, (.bool true), t134] H fun t135 H =>
  some (t135, H)) (pEql t4 (.int .i64 (.ofNat 28)) H fun t138 H =>
  guardA t138 false (pEql t4 (.int .i64 (.ofNat 29)) H fun t141 H =>
  S_verify_checker_kinds_11 call t1 t3 t4 t138 t141 H) (S_verify_checker_kinds_11 call t1 t3 t4 t138 U H))
noncomputable def S_verify_checker_kinds_13 (call : CallFn) (t1 t3 t4 t108 t110 : AV) (H : AHeap) : R :=
  pPick t108 (.bool true) t110 H fun t111 H =>
  onBool t111 (ldK .none H t1 fun t112 H =>
  pFa 1 t3 H fun t113 H =>
  ldK .none H t113 fun t114 H =>
  pN (aBsl 1 1 [(.int .i64 (.ofNat 0))] [(0, 1, t114)]) H fun t115 H =>
  pC call n_verify_checker_is [t112, (.bool true), t115] H fun t116 H =>
  guardA t116 true (ldK .none H t1 fun t118 H =>
  pFa 3 t3 H fun t119 H =>
  ldK .none H t119 fun t120 H =>
  pN (aBsl 1 1 [(.int .i64 (.ofNat 0))] [(0, 1, t120)]) H fun t121 H =>
  pC call n_verify_checker_is [t118, (.bool false), t121] H fun t122 H =>
  S_verify_checker_kinds_1 call t116 t122 H) (S_verify_checker_kinds_1 call t116 U H)) (pEql t4 (.int .i64 (.ofNat 27)) H fun t126 H =>
  guardA t126 false (pEql t4 (.int .i64 (.ofNat 21)) H fun t129 H =>
  S_verify_checker_kinds_12 call t1 t3 t4 t126 t129 H) (S_verify_checker_kinds_12 call t1 t3 t4 t126 U H))
noncomputable def S_verify_checker_kinds_14 (call : CallFn) (t1 t3 t4 t65 t67 : AV) (H : AHeap) : R :=
  pPick t65 t67 (.bool false) H fun t68 H =>
  onBool t68 (ldK .none H t1 fun t69 H =>
  pFa 1 t3 H fun t70 H =>
  ldK .none H t70 fun t71 H =>
  pFa 2 t3 H fun t72 H =>
  ldK .none H t72 fun t73 H =>
  pFa 3 t3 H fun t74 H =>
  ldK .none H t74 fun t75 H =>
  pN (aBsl 1 3 [(.int .i64 (.ofNat 0))] [(0, 1, t71), (1, 1, t73), (2, 1, t75)]) H fun t76 H =>
  pC call n_verify_checker_is [t69, (.bool false), t76] H fun t77 H =>
  some (t77, H)) (pEql t4 (.int .i64 (.ofNat 16)) H fun t80 H =>
  onBool t80 (ldK .none H t1 fun t81 H =>
  pFa 1 t3 H fun t82 H =>
  ldK .none H t82 fun t83 H =>
  pN (aBsl 1 1 [(.int .i64 (.ofNat 0))] [(0, 1, t83)]) H fun t84 H =>
  pC call n_verify_checker_is [t81, (.bool false), t84] H fun t85 H =>
  guardA t85 true (ldK .none H t1 fun t87 H =>
  pFa 2 t3 H fun t88 H =>
  ldK .none H t88 fun t89 H =>
  pFa 3 t3 H fun t90 H =>
  ldK .none H t90 fun t91 H =>
  pN (aBsl 1 2 [(.int .i64 (.ofNat 0))] [(0, 1, t89), (1, 1, t91)]) H fun t92 H =>
  pC call n_verify_checker_is [t87, (.bool true), t92] H fun t93 H =>
  S_verify_checker_kinds_0 call t85 t93 H) (S_verify_checker_kinds_0 call t85 U H)) (pEql t4 (.int .i64 (.ofNat 17)) H fun t97 H =>
  onBool t97 (ldK .none H t1 fun t98 H =>
  pFa 1 t3 H fun t99 H =>
  ldK .none H t99 fun t100 H =>
  pFa 2 t3 H fun t101 H =>
  ldK .none H t101 fun t102 H =>
  pN (aBsl 1 2 [(.int .i64 (.ofNat 0))] [(0, 1, t100), (1, 1, t102)]) H fun t103 H =>
  pC call n_verify_checker_is [t98, (.bool false), t103] H fun t104 H =>
  some (t104, H)) (pEql t4 (.int .i64 (.ofNat 26)) H fun t107 H =>
  guardA t107 false (pEql t4 (.int .i64 (.ofNat 37)) H fun t110 H =>
  S_verify_checker_kinds_13 call t1 t3 t4 t107 t110 H) (S_verify_checker_kinds_13 call t1 t3 t4 t107 U H))))
noncomputable def S_verify_checker_kinds_15 (call : CallFn) (t1 t3 t4 t53 t55 : AV) (H : AHeap) : R :=
  pPick t53 (.bool true) t55 H fun t56 H =>
  onBool t56 (ldK .none H t1 fun t57 H =>
  pFa 1 t3 H fun t58 H =>
  ldK .none H t58 fun t59 H =>
  pN (aBsl 1 1 [(.int .i64 (.ofNat 0))] [(0, 1, t59)]) H fun t60 H =>
  pC call n_verify_checker_is [t57, (.bool true), t60] H fun t61 H =>
  some (t61, H)) (pGeq t4 (.int .i64 (.ofNat 3)) H fun t64 H =>
  guardA t64 true (pLeq t4 (.int .i64 (.ofNat 15)) H fun t67 H =>
  S_verify_checker_kinds_14 call t1 t3 t4 t64 t67 H) (S_verify_checker_kinds_14 call t1 t3 t4 t64 U H))
noncomputable def S_verify_checker_kinds_16 (call : CallFn) (t1 t3 t4 t49 t51 : AV) (H : AHeap) : R :=
  pPick t49 (.bool true) t51 H fun t52 H =>
  guardA t52 false (pEql t4 (.int .i64 (.ofNat 40)) H fun t55 H =>
  S_verify_checker_kinds_15 call t1 t3 t4 t52 t55 H) (S_verify_checker_kinds_15 call t1 t3 t4 t52 U H)
noncomputable def S_verify_checker_kinds_17 (call : CallFn) (t1 t3 t4 t20 t22 : AV) (H : AHeap) : R :=
  pPick t20 (.bool true) t22 H fun t23 H =>
  onBool t23 (ldK .none H t1 fun t24 H =>
  pFa 1 t3 H fun t25 H =>
  ldK .none H t25 fun t26 H =>
  pN (aBsl 1 1 [(.int .i64 (.ofNat 0))] [(0, 1, t26)]) H fun t27 H =>
  pC call n_verify_checker_is [t24, (.bool false), t27] H fun t28 H =>
  some (t28, H)) (pEql t4 (.int .i64 (.ofNat 1)) H fun t31 H =>
  onBool t31 (ldK .none H t1 fun t32 H =>
  ldK .none H t1 fun t33 H =>
  pO (aNil t33) H fun t34 H =>
  pFa 6 t34 H fun t35 H =>
  pFa 4 t35 H fun t36 H =>
  ldK .none H t36 fun t37 H =>
  pFa 2 t3 H fun t38 H =>
  ldK .none H t38 fun t39 H =>
  pIa 1 t37 t39 H fun t40 H =>
  ldK .none H t40 fun t41 H =>
  pFa 1 t3 H fun t42 H =>
  ldK .none H t42 fun t43 H =>
  pN (aBsl 1 1 [(.int .i64 (.ofNat 0))] [(0, 1, t43)]) H fun t44 H =>
  pC call n_verify_checker_is [t32, t41, t44] H fun t45 H =>
  some (t45, H)) (pEql t4 (.int .i64 (.ofNat 2)) H fun t48 H =>
  guardA t48 false (pEql t4 (.int .i64 (.ofNat 25)) H fun t51 H =>
  S_verify_checker_kinds_16 call t1 t3 t4 t48 t51 H) (S_verify_checker_kinds_16 call t1 t3 t4 t48 U H)))
noncomputable def S_verify_checker_kinds_18 (call : CallFn) (t1 t3 t4 t16 t18 : AV) (H : AHeap) : R :=
  pPick t16 (.bool true) t18 H fun t19 H =>
  guardA t19 false (pEql t4 (.int .i64 (.ofNat 42)) H fun t22 H =>
  S_verify_checker_kinds_17 call t1 t3 t4 t19 t22 H) (S_verify_checker_kinds_17 call t1 t3 t4 t19 U H)
noncomputable def S_verify_checker_kinds_19 (call : CallFn) (t0 : AV) (H : AHeap) : R :=
  pBox t0 H fun t1 H =>
  ldK .none H t1 fun t7 H =>
  pO (aNil t7) H fun t8 H =>
  pFa 17 t8 H fun t9 H =>
  ldK (.some 5) H t9 fun t10 H =>
  pNew [(.int .i64 (.ofNat 0)), (.int .i64 (.ofNat 0)), (.int .i64 (.ofNat 0)), (.int .i64 (.ofNat 0)), (.int .i64 (.ofNat 0))] H fun t3 H =>
  stK 5 H t3 t10 fun _ H =>
  pFa 0 t3 H fun t11 H =>
  ldK .none H t11 fun t12 H =>
  pEql t12 (.int .i64 (.ofNat 0)) H fun t15 H =>
  guardA t15 false (pEql t12 (.int .i64 (.ofNat 19)) H fun t18 H =>
  S_verify_checker_kinds_18 call t1 t3 t12 t15 t18 H) (S_verify_checker_kinds_18 call t1 t3 t12 t15 U H)
noncomputable def S_verify_checker_kinds : Ff := ⟨fun call l H => argA1 (fun t0 => S_verify_checker_kinds_19 call t0 H) l⟩
/- (*gantline/verify.checker).on -/
noncomputable def S_verify_checker_on_0 (_ : CallFn) (t42 : AV) (H : AHeap) : R :=
  onBool t42 (some ((.bool true), H)) (some ((.bool false), H))
noncomputable def S_verify_checker_on_1 (call : CallFn) (t0 : AV) (H : AHeap) : R :=
  pO (aNil t0) H fun t26 H =>
  pFa 16 t26 H fun t27 H =>
  ldK .none H t27 fun t28 H =>
  pO (aNil t0) H fun t30 H =>
  pFa 6 t30 H fun t31 H =>
  pFa 5 t31 H fun t32 H =>
  ldK .none H t32 fun t33 H =>
  pO (aLen .sl H t33) H fun t34 H =>
  pSub t34 (.int .i64 (.ofNat 1)) H fun t35 H =>
  pLss t28 t35 H fun t36 H =>
  onBool t36 (some ((.bool true), H)) (pO (aNil t0) H fun t38 H =>
  pFa 17 t38 H fun t39 H =>
  pFa 0 t39 H fun t40 H =>
  ldK .none H t40 fun t41 H =>
  pEql t41 (.int .i64 (.ofNat 18)) H fun t43 H =>
  onBool t43 (S_verify_checker_on_0 call t43 H) (pEql t41 (.int .i64 (.ofNat 22)) H fun t44 H =>
  onBool t44 (S_verify_checker_on_0 call t44 H) (pEql t41 (.int .i64 (.ofNat 44)) H fun t45 H =>
  onBool t45 (S_verify_checker_on_0 call t45 H) (pEql t41 (.int .i64 (.ofNat 41)) H fun t46 H =>
  S_verify_checker_on_0 call t46 H))))
noncomputable def S_verify_checker_on_3 (_ : CallFn) (q0 : AV → AV → AV → AV → AHeap → R) (t0 t6 t7 t8 t14 t22 : AV) (H : AHeap) : R :=
  pPick t14 (.bool true) t22 H fun t23 H =>
  onBool t23 (some ((.bool false), H)) (pAdd t8 (.int .i64 (.ofNat 1)) H fun t24 H =>
  q0 t0 t6 t7 t24 H)
noncomputable def S_verify_checker_on_2 (call : CallFn) (n : Nat) : AV → AV → AV → AV → AHeap → R :=
  Nat.rec (motive := fun _ => AV → AV → AV → AV → AHeap → R) (fun _ _ _ _ _ => none) (fun _ q0 t0 t6 t7 t8 H => pLss t8 t7 H fun t9 H =>
  onBool t9 (pIa 1 t6 t8 H fun t10 H =>
  ldK .none H t10 fun t11 H =>
  pLss t11 (.int .i64 (.ofNat 0)) H fun t13 H =>
  guardA t13 false (pO (aNil t0) H fun t17 H =>
  pFa 6 t17 H fun t18 H =>
  pFa 5 t18 H fun t19 H =>
  ldK .none H t19 fun t20 H =>
  pO (aLen .sl H t20) H fun t21 H =>
  pGeq t11 t21 H fun t22 H =>
  S_verify_checker_on_3 call q0 t0 t6 t7 t8 t13 t22 H) (S_verify_checker_on_3 call q0 t0 t6 t7 t8 t13 U H)) (S_verify_checker_on_1 call t0 H)) n
noncomputable def S_verify_checker_on_4 (call : CallFn) (t0 : AV) (H : AHeap) : R :=
  pC call n_verify_checker_targets [t0] H fun t6 H =>
  pO (aLen .sl H t6) H fun t7 H =>
  S_verify_checker_on_2 call 1000000 t0 t6 t7 (.int .i64 (.ofNat 0)) H
noncomputable def S_verify_checker_on : Ff := ⟨fun call l H => argA1 (fun t0 => S_verify_checker_on_4 call t0 H) l⟩
/- (*gantline/verify.checker).back -/
noncomputable def S_verify_checker_back_1 (_ : CallFn) (q0 : AV → AV → AV → AV → AHeap → R) (t0 t6 t7 t8 t18 t28 : AV) (H : AHeap) : R :=
  pPick t18 t28 (.bool false) H fun t29 H =>
  onBool t29 (some ((.bool false), H)) (pAdd t8 (.int .i64 (.ofNat 1)) H fun t30 H =>
  q0 t0 t6 t7 t30 H)
noncomputable def S_verify_checker_back_0 (call : CallFn) (n : Nat) : AV → AV → AV → AV → AHeap → R :=
  Nat.rec (motive := fun _ => AV → AV → AV → AV → AHeap → R) (fun _ _ _ _ _ => none) (fun _ q0 t0 t6 t7 t8 H => pLss t8 t7 H fun t9 H =>
  onBool t9 (pIa 1 t6 t8 H fun t10 H =>
  ldK .none H t10 fun t11 H =>
  pO (aNil t0) H fun t14 H =>
  pFa 16 t14 H fun t15 H =>
  ldK .none H t15 fun t16 H =>
  pLeq t11 t16 H fun t17 H =>
  guardA t17 true (pO (aNil t0) H fun t20 H =>
  pFa 6 t20 H fun t21 H =>
  pFa 5 t21 H fun t22 H =>
  ldK .none H t22 fun t23 H =>
  pIa 5 t23 t11 H fun t25 H =>
  pFa 0 t25 H fun t26 H =>
  ldK .none H t26 fun t27 H =>
  pNeq t27 (.int .i64 (.ofNat 43)) H fun t28 H =>
  S_verify_checker_back_1 call q0 t0 t6 t7 t8 t17 t28 H) (S_verify_checker_back_1 call q0 t0 t6 t7 t8 t17 U H)) (some ((.bool true), H))) n
noncomputable def S_verify_checker_back_2 (call : CallFn) (t0 : AV) (H : AHeap) : R :=
  pC call n_verify_checker_targets [t0] H fun t6 H =>
  pO (aLen .sl H t6) H fun t7 H =>
  S_verify_checker_back_0 call 1000000 t0 t6 t7 (.int .i64 (.ofNat 0)) H
noncomputable def S_verify_checker_back : Ff := ⟨fun call l H => argA1 (fun t0 => S_verify_checker_back_2 call t0 H) l⟩
/- (*gantline/verify.checker).bare -/
noncomputable def S_verify_checker_bare_0 (call : CallFn) (t0 : AV) (H : AHeap) : R :=
  pO (aNil t0) H fun t35 H =>
  pFa 6 t35 H fun t36 H =>
  ldK (.some 7) H t36 fun t37 H =>
  pO (aNil t0) H fun t39 H =>
  pFa 14 t39 H fun t40 H =>
  ldK .none H t40 fun t41 H =>
  pO (aNil t0) H fun t43 H =>
  pFa 16 t43 H fun t44 H =>
  ldK .none H t44 fun t45 H =>
  pC call n_fresh_SpareIn [t37, t41, t45] H fun t46 H =>
  some (t46, H)
noncomputable def S_verify_checker_bare_1 (call : CallFn) (t0 t9 t15 : AV) (H : AHeap) : R :=
  pPick t9 t15 (.bool false) H fun t16 H =>
  onBool t16 (some ((.bool true), H)) (pO (aNil t0) H fun t18 H =>
  pFa 14 t18 H fun t19 H =>
  ldK .none H t19 fun t20 H =>
  pO (aEq false .sl t20 .nilsl) H fun t21 H =>
  onBool t21 (pO (aNil t0) H fun t24 H =>
  pFa 0 t24 H fun t25 H =>
  ldK (.some 6) H t25 fun t26 H =>
  pO (aNil t0) H fun t28 H =>
  pFa 6 t28 H fun t29 H =>
  ldK (.some 7) H t29 fun t30 H =>
  pC call n_fresh_Sets [t26, t30] H fun t31 H =>
  pO (aNil t0) H fun t32 H =>
  pFa 14 t32 H fun t33 H =>
  stK 1 H t33 t31 fun _ H =>
  S_verify_checker_bare_0 call t0 H) (S_verify_checker_bare_0 call t0 H))
noncomputable def S_verify_checker_bare_2 (call : CallFn) (t0 : AV) (H : AHeap) : R :=
  pO (aNil t0) H fun t4 H =>
  pFa 17 t4 H fun t5 H =>
  pFa 0 t5 H fun t6 H =>
  ldK .none H t6 fun t7 H =>
  pNeq t7 (.int .i64 (.ofNat 29)) H fun t8 H =>
  guardA t8 true (pO (aNil t0) H fun t11 H =>
  pFa 17 t11 H fun t12 H =>
  pFa 0 t12 H fun t13 H =>
  ldK .none H t13 fun t14 H =>
  pNeq t14 (.int .i64 (.ofNat 32)) H fun t15 H =>
  S_verify_checker_bare_1 call t0 t8 t15 H) (S_verify_checker_bare_1 call t0 t8 U H)
noncomputable def S_verify_checker_bare : Ff := ⟨fun call l H => argA1 (fun t0 => S_verify_checker_bare_2 call t0 H) l⟩
/- slices.Sort[[]int,int] -/
noncomputable def S_slices_Sort_int_0 (call : CallFn) (t0 : AV) (H : AHeap) : R :=
  pO (aLen .sl H t0) H fun t4 H =>
  pConv .u64 t4 H fun t8 H =>
  pC call n_math_bits_Len [t8] H fun t9 H =>
  pC call n_slices_pdqsortOrdered_int [t0, (.int .i64 (.ofNat 0)), t4, t9] H fun _ H =>
  some (.tup [], H)
noncomputable def S_slices_Sort_int : Ff := ⟨fun call l H => argA1 (fun t0 => S_slices_Sort_int_0 call t0 H) l⟩
/- (*gantline/frame.Stack).Set -/
noncomputable def S_frame_Stack_Set_0 (_ : CallFn) (t1 t2 t6 t15 t22 : AV) (H : AHeap) : R :=
  pPick t15 t22 (.bool false) H fun t23 H =>
  onBool t23 (pO (aNil t6) H fun t25 H =>
  pFa 2 t25 H fun t26 H =>
  ldK .none H t26 fun t27 H =>
  pIa 1 t27 t1 H fun t30 H =>
  stK 1 H t30 t2 fun _ H =>
  some (.tup [], H)) (some (.tup [], H))
noncomputable def S_frame_Stack_Set_1 (call : CallFn) (t1 t2 t6 t11 t13 : AV) (H : AHeap) : R :=
  pPick t11 t13 (.bool false) H fun t14 H =>
  guardA t14 true (pO (aNil t6) H fun t18 H =>
  pFa 2 t18 H fun t19 H =>
  ldK .none H t19 fun t20 H =>
  pO (aLen .sl H t20) H fun t21 H =>
  pLss t1 t21 H fun t22 H =>
  S_frame_Stack_Set_0 call t1 t2 t6 t14 t22 H) (S_frame_Stack_Set_0 call t1 t2 t6 t14 U H)
noncomputable def S_frame_Stack_Set_2 (call : CallFn) (t0 t1 t2 : AV) (H : AHeap) : R :=
  pC call n_frame_Stack_top [t0] H fun t8 H =>
  pO (aEq true .ptr t8 .nilp) H fun t10 H =>
  guardA t10 true (pGeq t1 (.int .i64 (.ofNat 0)) H fun t13 H =>
  S_frame_Stack_Set_1 call t1 t2 t8 t10 t13 H) (S_frame_Stack_Set_1 call t1 t2 t8 t10 U H)
noncomputable def S_frame_Stack_Set : Ff := ⟨fun call l H => argA3 (fun t0 t1 t2 => S_frame_Stack_Set_2 call t0 t1 t2 H) l⟩
/- (*gantline/frame.Stack).Return -/
noncomputable def S_frame_Stack_Return_0 (_ : CallFn) (t0 : AV) (H : AHeap) : R :=
  pO (aNil t0) H fun t24 H =>
  pFa 0 t24 H fun t25 H =>
  ldK .none H t25 fun t26 H =>
  pO (aLen .sl H t26) H fun t27 H =>
  pGtr t27 (.int .i64 (.ofNat 0)) H fun t28 H =>
  some (t28, H)
noncomputable def S_frame_Stack_Return_1 (call : CallFn) (t0 : AV) (H : AHeap) : R :=
  pO (aNil t0) H fun t4 H =>
  pFa 0 t4 H fun t5 H =>
  ldK .none H t5 fun t6 H =>
  pO (aLen .sl H t6) H fun t7 H =>
  pGtr t7 (.int .i64 (.ofNat 0)) H fun t8 H =>
  onBool t8 (pO (aNil t0) H fun t11 H =>
  pFa 0 t11 H fun t12 H =>
  ldK .none H t12 fun t13 H =>
  pO (aNil t0) H fun t15 H =>
  pFa 0 t15 H fun t16 H =>
  ldK .none H t16 fun t17 H =>
  pO (aLen .sl H t17) H fun t18 H =>
  pSub t18 (.int .i64 (.ofNat 1)) H fun t19 H =>
  pO (aSlice 3 H t13 .none (.some t19) .none) H fun t20 H =>
  pO (aNil t0) H fun t21 H =>
  pFa 0 t21 H fun t22 H =>
  stK 1 H t22 t20 fun _ H =>
  S_frame_Stack_Return_0 call t0 H) (S_frame_Stack_Return_0 call t0 H)
noncomputable def S_frame_Stack_Return : Ff := ⟨fun call l H => argA1 (fun t0 => S_frame_Stack_Return_1 call t0 H) l⟩
/- (*gantline/sched.Table).Drop -/
noncomputable def S_sched_Table_Drop_0 (_ : CallFn) (t0 t1 : AV) (H : AHeap) : R :=
  pO (aNil t0) H fun t5 H =>
  pFa 6 t5 H fun t6 H =>
  ldK .none H t6 fun t7 H =>
  pW (unitW (aDelete .int H t7 t1)) fun _ H =>
  some (.tup [], H)
noncomputable def S_sched_Table_Drop : Ff := ⟨fun call l H => argA2 (fun t0 t1 => S_sched_Table_Drop_0 call t0 t1 H) l⟩
/- (*gantline/cycle.Cycle).Dies -/
noncomputable def S_cycle_Cycle_Dies_0 (_ : CallFn) (t0 t1 : AV) (H : AHeap) : R :=
  pO (aNil t0) H fun t5 H =>
  pFa 5 t5 H fun t6 H =>
  ldK .none H t6 fun t7 H =>
  pW (unitW (aDelete .int H t7 t1)) fun _ H =>
  some (.tup [], H)
noncomputable def S_cycle_Cycle_Dies : Ff := ⟨fun call l H => argA2 (fun t0 t1 => S_cycle_Cycle_Dies_0 call t0 t1 H) l⟩
/- slices.IndexFunc[[]gantline/head.Shape,gantline/head.Shape] -/
noncomputable def S_slices_IndexFunc_head_Shape_0 (call : CallFn) (n : Nat) : AV → AV → AV → AV → AHeap → R :=
  Nat.rec (motive := fun _ => AV → AV → AV → AV → AHeap → R) (fun _ _ _ _ _ => none) (fun _ q0 t0 t1 t7 t8 H => pLss t8 t7 H fun t9 H =>
  onBool t9 (pIa 3 t0 t8 H fun t14 H =>
  ldK (.some 3) H t14 fun t15 H =>
  pV call t1 [t15] H fun t16 H =>
  onBool t16 (some (t8, H)) (pAdd t8 (.int .i64 (.ofNat 1)) H fun t18 H =>
  q0 t0 t1 t7 t18 H)) (some ((.int .i64 (.negSucc 0)), H))) n
noncomputable def S_slices_IndexFunc_head_Shape_1 (call : CallFn) (t0 t1 : AV) (H : AHeap) : R :=
  pO (aLen .sl H t0) H fun t7 H =>
  S_slices_IndexFunc_head_Shape_0 call 1000000 t0 t1 t7 (.int .i64 (.ofNat 0)) H
noncomputable def S_slices_IndexFunc_head_Shape : Ff := ⟨fun call l H => argA2 (fun t0 t1 => S_slices_IndexFunc_head_Shape_1 call t0 t1 H) l⟩
/- slices.IndexFunc[[]int64,int64] -/
noncomputable def S_slices_IndexFunc_int64_0 (call : CallFn) (n : Nat) : AV → AV → AV → AV → AHeap → R :=
  Nat.rec (motive := fun _ => AV → AV → AV → AV → AHeap → R) (fun _ _ _ _ _ => none) (fun _ q0 t0 t1 t7 t8 H => pLss t8 t7 H fun t9 H =>
  onBool t9 (pIa 1 t0 t8 H fun t14 H =>
  ldK .none H t14 fun t15 H =>
  pV call t1 [t15] H fun t16 H =>
  onBool t16 (some (t8, H)) (pAdd t8 (.int .i64 (.ofNat 1)) H fun t18 H =>
  q0 t0 t1 t7 t18 H)) (some ((.int .i64 (.negSucc 0)), H))) n
noncomputable def S_slices_IndexFunc_int64_1 (call : CallFn) (t0 t1 : AV) (H : AHeap) : R :=
  pO (aLen .sl H t0) H fun t7 H =>
  S_slices_IndexFunc_int64_0 call 1000000 t0 t1 t7 (.int .i64 (.ofNat 0)) H
noncomputable def S_slices_IndexFunc_int64 : Ff := ⟨fun call l H => argA2 (fun t0 t1 => S_slices_IndexFunc_int64_1 call t0 t1 H) l⟩
/- gantline/live.Sets$1 -/
noncomputable def S_live_Sets_c1_0 (_ : CallFn) (n : Nat) : AV → AV → AV → AV → AV → AHeap → R :=
  Nat.rec (motive := fun _ => AV → AV → AV → AV → AV → AHeap → R) (fun _ _ _ _ _ _ => none) (fun _ q0 t3 t6 t64 t65 t66 H => pLss t66 t65 H fun t67 H =>
  onBool t67 (pIa 1 t64 t66 H fun t68 H =>
  ldK .none H t68 fun t69 H =>
  ldK .none H t3 fun t71 H =>
  pIa 1 t71 t69 H fun t73 H =>
  ldK .none H t73 fun t74 H =>
  pOr t6 t74 H fun t75 H =>
  pAdd t66 (.int .i64 (.ofNat 1)) H fun t76 H =>
  q0 t3 t75 t64 t65 t76 H) (some (t6, H))) n
noncomputable def S_live_Sets_c1_1 (call : CallFn) (t0 t1 t2 t3 t6 : AV) (H : AHeap) : R :=
  ldK (.some 6) H t2 fun t61 H =>
  ldK (.some 7) H t1 fun t62 H =>
  pC call n_live_Follows [t61, t62, t0] H fun t64 H =>
  pO (aLen .sl H t64) H fun t65 H =>
  S_live_Sets_c1_0 call 1000000 t3 t6 t64 t65 (.int .i64 (.ofNat 0)) H
noncomputable def S_live_Sets_c1_3 (_ : CallFn) (q1 : AV → AV → AV → AV → AV → AV → AHeap → R) (t1 t3 t6 t23 t24 t25 : AV) (H : AHeap) : R :=
  pAdd t25 (.int .i64 (.ofNat 1)) H fun t59 H =>
  q1 t1 t3 t6 t23 t24 t59 H
noncomputable def S_live_Sets_c1_4 (call : CallFn) (q1 : AV → AV → AV → AV → AV → AV → AHeap → R) (t1 t3 t6 t9 t23 t24 t25 t32 t38 : AV) (H : AHeap) : R :=
  pPick t32 (.bool true) t38 H fun t39 H =>
  onBool t39 (S_live_Sets_c1_3 call q1 t1 t3 t6 t23 t24 t25 H) (ldK .none H t3 fun t40 H =>
  pFa 3 t9 H fun t41 H =>
  ldK .none H t41 fun t42 H =>
  pIa 1 t40 t42 H fun t43 H =>
  ldK .none H t43 fun t44 H =>
  pFa 0 t9 H fun t45 H =>
  ldK .none H t45 fun t46 H =>
  pEql t46 (.int .i64 (.ofNat 0)) H fun t47 H =>
  onBool t47 (pFa 2 t9 H fun t50 H =>
  ldK .none H t50 fun t51 H =>
  pN (aBsl 1 1 [(.int .i64 (.ofNat 0))] [(0, 1, t51)]) H fun t52 H =>
  pC call n_live_bitsOf [t52] H fun t53 H =>
  pAndN t44 t53 H fun t54 H =>
  pOr t6 t54 H fun t55 H =>
  S_live_Sets_c1_3 call q1 t1 t3 t55 t23 t24 t25 H) (pOr t6 t44 H fun t58 H =>
  S_live_Sets_c1_3 call q1 t1 t3 t58 t23 t24 t25 H))
noncomputable def S_live_Sets_c1_2 (call : CallFn) (n : Nat) : AV → AV → AV → AV → AV → AV → AHeap → R :=
  Nat.rec (motive := fun _ => AV → AV → AV → AV → AV → AV → AHeap → R) (fun _ _ _ _ _ _ _ => none) (fun _ q1 t1 t3 t6 t23 t24 t25 H => pLss t25 t24 H fun t26 H =>
  onBool t26 (pIa 4 t23 t25 H fun t27 H =>
  ldK (.some 4) H t27 fun t28 H =>
  pNew [(.int .i64 (.ofNat 0)), (.int .i64 (.ofNat 0)), (.int .i64 (.ofNat 0)), (.int .i64 (.ofNat 0))] H fun t9 H =>
  stK 4 H t9 t28 fun _ H =>
  pFa 3 t9 H fun t29 H =>
  ldK .none H t29 fun t30 H =>
  pLss t30 (.int .i64 (.ofNat 0)) H fun t31 H =>
  guardA t31 false (pFa 3 t9 H fun t33 H =>
  ldK .none H t33 fun t34 H =>
  pFa 5 t1 H fun t35 H =>
  ldK .none H t35 fun t36 H =>
  pO (aLen .sl H t36) H fun t37 H =>
  pGeq t34 t37 H fun t38 H =>
  S_live_Sets_c1_4 call q1 t1 t3 t6 t9 t23 t24 t25 t31 t38 H) (S_live_Sets_c1_4 call q1 t1 t3 t6 t9 t23 t24 t25 t31 U H)) (some (t6, H))) n
noncomputable def S_live_Sets_c1_5 (call : CallFn) (t0 t1 t2 t3 : AV) (H : AHeap) : R :=
  pFa 5 t1 H fun t13 H =>
  ldK .none H t13 fun t14 H =>
  pIa 5 t14 t0 H fun t16 H =>
  ldK (.some 5) H t16 fun t17 H =>
  pNew [(.int .i64 (.ofNat 0)), (.int .i64 (.ofNat 0)), (.int .i64 (.ofNat 0)), (.int .i64 (.ofNat 0)), (.int .i64 (.ofNat 0))] H fun t7 H =>
  stK 5 H t7 t17 fun _ H =>
  pFa 0 t7 H fun t18 H =>
  ldK .none H t18 fun t19 H =>
  pEql t19 (.int .i64 (.ofNat 41)) H fun t20 H =>
  onBool t20 (ldK (.some 6) H t2 fun t21 H =>
  ldK (.some 5) H t7 fun t22 H =>
  pC call n_live_cases [t21, t22] H fun t23 H =>
  pO (aLen .sl H t23) H fun t24 H =>
  S_live_Sets_c1_2 call 1000000 t1 t3 (.int .u64 (.ofNat 0)) t23 t24 (.int .i64 (.ofNat 0)) H) (S_live_Sets_c1_1 call t0 t1 t2 t3 (.int .u64 (.ofNat 0)) H)
noncomputable def S_live_Sets_c1 : Ff := ⟨fun call l H => argA4 (fun t0 t1 t2 t3 => S_live_Sets_c1_5 call t0 t1 t2 t3 H) l⟩
/- gantline/live.bitsOf -/
noncomputable def S_live_bitsOf_1 (_ : CallFn) (q0 : AV → AV → AV → AV → AHeap → R) (t3 t6 t7 t8 : AV) (H : AHeap) : R :=
  pAdd t8 (.int .i64 (.ofNat 1)) H fun t23 H =>
  q0 t3 t6 t7 t23 H
noncomputable def S_live_bitsOf_2 (call : CallFn) (q0 : AV → AV → AV → AV → AHeap → R) (t3 t5 t6 t7 t8 t14 t16 : AV) (H : AHeap) : R :=
  pPick t14 t16 (.bool false) H fun t17 H =>
  onBool t17 (pConv .u64 t5 H fun t20 H =>
  pO (aBin .shl (.int .u64 (.ofNat 1)) t20) H fun t21 H =>
  pOr t3 t21 H fun t22 H =>
  S_live_bitsOf_1 call q0 t22 t6 t7 t8 H) (S_live_bitsOf_1 call q0 t3 t6 t7 t8 H)
noncomputable def S_live_bitsOf_0 (call : CallFn) (n : Nat) : AV → AV → AV → AV → AHeap → R :=
  Nat.rec (motive := fun _ => AV → AV → AV → AV → AHeap → R) (fun _ _ _ _ _ => none) (fun _ q0 t3 t6 t7 t8 H => pLss t8 t7 H fun t9 H =>
  onBool t9 (pIa 1 t6 t8 H fun t10 H =>
  ldK .none H t10 fun t11 H =>
  pGeq t11 (.int .i64 (.ofNat 0)) H fun t13 H =>
  guardA t13 true (pLss t11 (.int .i64 (.ofNat 64)) H fun t16 H =>
  S_live_bitsOf_2 call q0 t3 t11 t6 t7 t8 t13 t16 H) (S_live_bitsOf_2 call q0 t3 t11 t6 t7 t8 t13 U H)) (some (t3, H))) n
noncomputable def S_live_bitsOf_3 (call : CallFn) (t0 : AV) (H : AHeap) : R :=
  pO (aLen .sl H t0) H fun t7 H =>
  S_live_bitsOf_0 call 1000000 (.int .u64 (.ofNat 0)) t0 t7 (.int .i64 (.ofNat 0)) H
noncomputable def S_live_bitsOf : Ff := ⟨fun call l H => argA1 (fun t0 => S_live_bitsOf_3 call t0 H) l⟩
/- gantline/live.Follows -/
noncomputable def S_live_Follows_0 (call : CallFn) (t4 t7 : AV) (H : AHeap) : R :=
  pC call n_slices_DeleteFunc_int [t7, (.fn n_live_Follows_c1 [] [t4])] H fun t63 H =>
  pC call n_slices_Sort_int [t63] H fun _ H =>
  pC call n_slices_Compact_int [t63] H fun t67 H =>
  some (t67, H)
noncomputable def S_live_Follows_1 (call : CallFn) (n : Nat) : AV → AV → AV → AV → AV → AHeap → R :=
  Nat.rec (motive := fun _ => AV → AV → AV → AV → AV → AHeap → R) (fun _ _ _ _ _ _ => none) (fun _ q0 t4 t7 t49 t50 t51 H => pLss t51 t50 H fun t52 H =>
  onBool t52 (pIa 4 t49 t51 H fun t53 H =>
  ldK (.some 4) H t53 fun t54 H =>
  pNew [(.int .i64 (.ofNat 0)), (.int .i64 (.ofNat 0)), (.int .i64 (.ofNat 0)), (.int .i64 (.ofNat 0))] H fun t10 H =>
  stK 4 H t10 t54 fun _ H =>
  pFa 3 t10 H fun t56 H =>
  ldK .none H t56 fun t57 H =>
  pN (aBsl 1 1 [(.int .i64 (.ofNat 0))] [(0, 1, t57)]) H fun t58 H =>
  pW (aApp 1 8 H t7 t58) fun t59 H =>
  pAdd t51 (.int .i64 (.ofNat 1)) H fun t60 H =>
  q0 t4 t59 t49 t50 t60 H) (S_live_Follows_0 call t4 t7 H)) n
noncomputable def S_live_Follows_2 (call : CallFn) (t2 t3 t4 t7 t8 t26 t42 : AV) (H : AHeap) : R :=
  onBool t42 (S_live_Follows_0 call t4 t7 H) (pEql t26 (.int .i64 (.ofNat 41)) H fun t46 H =>
  onBool t46 (ldK (.some 6) H t3 fun t47 H =>
  ldK (.some 5) H t8 fun t48 H =>
  pC call n_live_cases [t47, t48] H fun t49 H =>
  pO (aLen .sl H t49) H fun t50 H =>
  S_live_Follows_1 call 1000000 t4 t7 t49 t50 (.int .i64 (.ofNat 0)) H) (pAdd t2 (.int .i64 (.ofNat 1)) H fun t28 H =>
  pN (aBsl 1 1 [(.int .i64 (.ofNat 0))] [(0, 1, t28)]) H fun t29 H =>
  S_live_Follows_0 call t4 t29 H))
noncomputable def S_live_Follows_3 (call : CallFn) (t2 t3 t4 t13 t18 : AV) (H : AHeap) : R :=
  pPick t13 (.bool true) t18 H fun t19 H =>
  onBool t19 (some (.nilsl, H)) (pFa 5 t4 H fun t20 H =>
  ldK .none H t20 fun t21 H =>
  pIa 5 t21 t2 H fun t23 H =>
  ldK (.some 5) H t23 fun t24 H =>
  pNew [(.int .i64 (.ofNat 0)), (.int .i64 (.ofNat 0)), (.int .i64 (.ofNat 0)), (.int .i64 (.ofNat 0)), (.int .i64 (.ofNat 0))] H fun t8 H =>
  stK 5 H t8 t24 fun _ H =>
  pFa 0 t8 H fun t25 H =>
  ldK .none H t25 fun t26 H =>
  pEql t26 (.int .i64 (.ofNat 18)) H fun t31 H =>
  onBool t31 (pFa 1 t8 H fun t32 H =>
  ldK .none H t32 fun t33 H =>
  pN (aBsl 1 1 [(.int .i64 (.ofNat 0))] [(0, 1, t33)]) H fun t34 H =>
  S_live_Follows_0 call t4 t34 H) (pEql t26 (.int .i64 (.ofNat 19)) H fun t36 H =>
  onBool t36 (pFa 2 t8 H fun t37 H =>
  ldK .none H t37 fun t38 H =>
  pAdd t2 (.int .i64 (.ofNat 1)) H fun t40 H =>
  pN (aBsl 1 2 [(.int .i64 (.ofNat 0))] [(0, 1, t38), (1, 1, t40)]) H fun t41 H =>
  S_live_Follows_0 call t4 t41 H) (pEql t26 (.int .i64 (.ofNat 22)) H fun t43 H =>
  onBool t43 (S_live_Follows_2 call t2 t3 t4 .nilsl t8 t26 t43 H) (pEql t26 (.int .i64 (.ofNat 44)) H fun t44 H =>
  S_live_Follows_2 call t2 t3 t4 .nilsl t8 t26 t44 H))))
noncomputable def S_live_Follows_4 (call : CallFn) (t0 t1 t2 : AV) (H : AHeap) : R :=
  pBox t0 H fun t3 H =>
  pBox t1 H fun t4 H =>
  pLss t2 (.int .i64 (.ofNat 0)) H fun t12 H =>
  guardA t12 false (pFa 5 t4 H fun t15 H =>
  ldK .none H t15 fun t16 H =>
  pO (aLen .sl H t16) H fun t17 H =>
  pGeq t2 t17 H fun t18 H =>
  S_live_Follows_3 call t2 t3 t4 t12 t18 H) (S_live_Follows_3 call t2 t3 t4 t12 U H)
noncomputable def S_live_Follows : Ff := ⟨fun call l H => argA3 (fun t0 t1 t2 => S_live_Follows_4 call t0 t1 t2 H) l⟩
/- gantline/live.Reads -/
noncomputable def S_live_Reads_0 (call : CallFn) (t2 t3 t5 t142 t144 : AV) (H : AHeap) : R :=
  pPick t142 (.bool true) t144 H fun t145 H =>
  onBool t145 (pFa 1 t3 H fun t146 H =>
  ldK .none H t146 fun t147 H =>
  pFa 2 t3 H fun t148 H =>
  ldK .none H t148 fun t149 H =>
  pFa 3 t3 H fun t150 H =>
  ldK .none H t150 fun t151 H =>
  pN (aBsl 1 3 [(.int .i64 (.ofNat 0))] [(0, 1, t147), (1, 1, t149), (2, 1, t151)]) H fun t152 H =>
  some (t152, H)) (pEql t5 (.int .i64 (.ofNat 36)) H fun t155 H =>
  onBool t155 (pFa 3 t3 H fun t156 H =>
  ldK .none H t156 fun t157 H =>
  ldK (.some 6) H t2 fun t158 H =>
  pFa 2 t3 H fun t159 H =>
  ldK .none H t159 fun t160 H =>
  pC call n_live_fn [t158, t160] H fun t161 H =>
  andR (andB (ckV (aLoad .none H t156) t157) true) (
  pO (aFld 1 .none t161) H fun t162 H =>
  pC call n_live_run [t157, t162] H fun t163 H =>
  some (t163, H))) (pEql t5 (.int .i64 (.ofNat 38)) H fun t166 H =>
  onBool t166 (pFa 1 t3 H fun t167 H =>
  ldK .none H t167 fun t168 H =>
  pFa 2 t3 H fun t169 H =>
  ldK .none H t169 fun t170 H =>
  pN (aBsl 1 2 [(.int .i64 (.ofNat 0))] [(0, 1, t168), (1, 1, t170)]) H fun t171 H =>
  some (t171, H)) (pEql t5 (.int .i64 (.ofNat 41)) H fun t174 H =>
  onBool t174 (ldK (.some 6) H t2 fun t175 H =>
  ldK (.some 5) H t3 fun t176 H =>
  pC call n_live_cases [t175, t176] H fun t177 H =>
  pC call n_live_readsOf [t177] H fun t178 H =>
  some (t178, H)) (some (.nilsl, H)))))
noncomputable def S_live_Reads_1 (call : CallFn) (t2 t3 t5 t130 t132 : AV) (H : AHeap) : R :=
  pPick t130 (.bool true) t132 H fun t133 H =>
  onBool t133 (pFa 1 t3 H fun t134 H =>
  ldK .none H t134 fun t135 H =>
  pFa 3 t3 H fun t136 H =>
  ldK .none H t136 fun t137 H =>
  pN (aBsl 1 2 [(.int .i64 (.ofNat 0))] [(0, 1, t135), (1, 1, t137)]) H fun t138 H =>
  some (t138, H)) (pEql t5 (.int .i64 (.ofNat 31)) H fun t141 H =>
  guardA t141 false (pEql t5 (.int .i64 (.ofNat 32)) H fun t144 H =>
  S_live_Reads_0 call t2 t3 t5 t141 t144 H) (S_live_Reads_0 call t2 t3 t5 t141 U H))
noncomputable def S_live_Reads_2 (call : CallFn) (t2 t3 t5 t120 t122 : AV) (H : AHeap) : R :=
  pPick t120 (.bool true) t122 H fun t123 H =>
  onBool t123 (pFa 3 t3 H fun t124 H =>
  ldK .none H t124 fun t125 H =>
  pN (aBsl 1 1 [(.int .i64 (.ofNat 0))] [(0, 1, t125)]) H fun t126 H =>
  some (t126, H)) (pEql t5 (.int .i64 (.ofNat 28)) H fun t129 H =>
  guardA t129 false (pEql t5 (.int .i64 (.ofNat 29)) H fun t132 H =>
  S_live_Reads_1 call t2 t3 t5 t129 t132 H) (S_live_Reads_1 call t2 t3 t5 t129 U H))
noncomputable def S_live_Reads_3 (call : CallFn) (t2 t3 t5 t57 t59 : AV) (H : AHeap) : R :=
  pPick t57 (.bool true) t59 H fun t60 H =>
  onBool t60 (pFa 1 t3 H fun t61 H =>
  ldK .none H t61 fun t62 H =>
  pN (aBsl 1 1 [(.int .i64 (.ofNat 0))] [(0, 1, t62)]) H fun t63 H =>
  some (t63, H)) (pEql t5 (.int .i64 (.ofNat 20)) H fun t66 H =>
  onBool t66 (pFa 3 t3 H fun t67 H =>
  ldK .none H t67 fun t68 H =>
  ldK (.some 6) H t2 fun t69 H =>
  pFa 2 t3 H fun t70 H =>
  ldK .none H t70 fun t71 H =>
  pC call n_live_fn [t69, t71] H fun t72 H =>
  andR (andB (ckV (aLoad .none H t67) t68) true) (
  pO (aFld 0 .none t72) H fun t73 H =>
  pC call n_live_run [t68, t73] H fun t74 H =>
  some (t74, H))) (pEql t5 (.int .i64 (.ofNat 21)) H fun t77 H =>
  onBool t77 (pFa 2 t3 H fun t78 H =>
  ldK .none H t78 fun t79 H =>
  pN (aBsl 1 1 [(.int .i64 (.ofNat 0))] [(0, 1, t79)]) H fun t80 H =>
  pFa 3 t3 H fun t81 H =>
  ldK .none H t81 fun t82 H =>
  pFa 4 t3 H fun t83 H =>
  ldK .none H t83 fun t84 H =>
  pC call n_live_run [t82, t84] H fun t85 H =>
  andR (andB (ckV (aLoad .none H t78) t79) true) (
  pW (aApp 1 8 H t80 t85) fun t86 H =>
  some (t86, H))) (pEql t5 (.int .i64 (.ofNat 22)) H fun t89 H =>
  onBool t89 (pFa 1 t3 H fun t90 H =>
  ldK .none H t90 fun t91 H =>
  pN (aBsl 1 1 [(.int .i64 (.ofNat 0))] [(0, 1, t91)]) H fun t92 H =>
  pC call n_live_given [t92] H fun t93 H =>
  some (t93, H)) (pEql t5 (.int .i64 (.ofNat 23)) H fun t96 H =>
  onBool t96 (pFa 2 t3 H fun t97 H =>
  ldK .none H t97 fun t98 H =>
  ldK (.some 6) H t2 fun t99 H =>
  pFa 1 t3 H fun t100 H =>
  ldK .none H t100 fun t101 H =>
  pC call n_live_fn [t99, t101] H fun t102 H =>
  andR (andB (ckV (aLoad .none H t97) t98) true) (
  pO (aFld 0 .none t102) H fun t103 H =>
  pC call n_live_run [t98, t103] H fun t104 H =>
  some (t104, H))) (pEql t5 (.int .i64 (.ofNat 24)) H fun t107 H =>
  onBool t107 (pFa 1 t3 H fun t108 H =>
  ldK .none H t108 fun t109 H =>
  pN (aBsl 1 1 [(.int .i64 (.ofNat 0))] [(0, 1, t109)]) H fun t110 H =>
  pFa 2 t3 H fun t111 H =>
  ldK .none H t111 fun t112 H =>
  pFa 3 t3 H fun t113 H =>
  ldK .none H t113 fun t114 H =>
  pC call n_live_run [t112, t114] H fun t115 H =>
  andR (andB (ckV (aLoad .none H t108) t109) true) (
  pW (aApp 1 8 H t110 t115) fun t116 H =>
  some (t116, H))) (pEql t5 (.int .i64 (.ofNat 26)) H fun t119 H =>
  guardA t119 false (pEql t5 (.int .i64 (.ofNat 37)) H fun t122 H =>
  S_live_Reads_2 call t2 t3 t5 t119 t122 H) (S_live_Reads_2 call t2 t3 t5 t119 U H)))))))
noncomputable def S_live_Reads_4 (call : CallFn) (t2 t3 t5 t53 t55 : AV) (H : AHeap) : R :=
  pPick t53 (.bool true) t55 H fun t56 H =>
  guardA t56 false (pEql t5 (.int .i64 (.ofNat 42)) H fun t59 H =>
  S_live_Reads_3 call t2 t3 t5 t56 t59 H) (S_live_Reads_3 call t2 t3 t5 t56 U H)
noncomputable def S_live_Reads_5 (call : CallFn) (t2 t3 t5 t41 t43 : AV) (H : AHeap) : R :=
  pPick t41 (.bool true) t43 H fun t44 H =>
  onBool t44 (pFa 2 t3 H fun t45 H =>
  ldK .none H t45 fun t46 H =>
  pFa 3 t3 H fun t47 H =>
  ldK .none H t47 fun t48 H =>
  pN (aBsl 1 2 [(.int .i64 (.ofNat 0))] [(0, 1, t46), (1, 1, t48)]) H fun t49 H =>
  some (t49, H)) (pEql t5 (.int .i64 (.ofNat 19)) H fun t52 H =>
  guardA t52 false (pEql t5 (.int .i64 (.ofNat 40)) H fun t55 H =>
  S_live_Reads_4 call t2 t3 t5 t52 t55 H) (S_live_Reads_4 call t2 t3 t5 t52 U H))
noncomputable def S_live_Reads_6 (call : CallFn) (t2 t3 t5 t37 t39 : AV) (H : AHeap) : R :=
  pPick t37 t39 (.bool false) H fun t40 H =>
  guardA t40 false (pEql t5 (.int .i64 (.ofNat 30)) H fun t43 H =>
  S_live_Reads_5 call t2 t3 t5 t40 t43 H) (S_live_Reads_5 call t2 t3 t5 t40 U H)
noncomputable def S_live_Reads_7 (call : CallFn) (t2 t3 t5 t27 t29 : AV) (H : AHeap) : R :=
  pPick t27 (.bool true) t29 H fun t30 H =>
  onBool t30 (pFa 2 t3 H fun t31 H =>
  ldK .none H t31 fun t32 H =>
  pN (aBsl 1 1 [(.int .i64 (.ofNat 0))] [(0, 1, t32)]) H fun t33 H =>
  some (t33, H)) (pGeq t5 (.int .i64 (.ofNat 3)) H fun t36 H =>
  guardA t36 true (pLeq t5 (.int .i64 (.ofNat 16)) H fun t39 H =>
  S_live_Reads_6 call t2 t3 t5 t36 t39 H) (S_live_Reads_6 call t2 t3 t5 t36 U H))
noncomputable def S_live_Reads_8 (call : CallFn) (t2 t3 t5 t23 t25 : AV) (H : AHeap) : R :=
  pPick t23 (.bool true) t25 H fun t26 H =>
  guardA t26 false (pEql t5 (.int .i64 (.ofNat 39)) H fun t29 H =>
  S_live_Reads_7 call t2 t3 t5 t26 t29 H) (S_live_Reads_7 call t2 t3 t5 t26 U H)
noncomputable def S_live_Reads_9 (call : CallFn) (t2 t3 t5 t19 t21 : AV) (H : AHeap) : R :=
  pPick t19 (.bool true) t21 H fun t22 H =>
  guardA t22 false (pEql t5 (.int .i64 (.ofNat 27)) H fun t25 H =>
  S_live_Reads_8 call t2 t3 t5 t22 t25 H) (S_live_Reads_8 call t2 t3 t5 t22 U H)
noncomputable def S_live_Reads_10 (call : CallFn) (t2 t3 t5 t15 t17 : AV) (H : AHeap) : R :=
  pPick t15 (.bool true) t17 H fun t18 H =>
  guardA t18 false (pEql t5 (.int .i64 (.ofNat 35)) H fun t21 H =>
  S_live_Reads_9 call t2 t3 t5 t18 t21 H) (S_live_Reads_9 call t2 t3 t5 t18 U H)
noncomputable def S_live_Reads_11 (call : CallFn) (t2 t3 t5 t11 t13 : AV) (H : AHeap) : R :=
  pPick t11 (.bool true) t13 H fun t14 H =>
  guardA t14 false (pEql t5 (.int .i64 (.ofNat 33)) H fun t17 H =>
  S_live_Reads_10 call t2 t3 t5 t14 t17 H) (S_live_Reads_10 call t2 t3 t5 t14 U H)
noncomputable def S_live_Reads_12 (call : CallFn) (t0 t1 : AV) (H : AHeap) : R :=
  pBox t0 H fun t2 H =>
  pBox t1 H fun t3 H =>
  pFa 0 t3 H fun t6 H =>
  ldK .none H t6 fun t7 H =>
  pEql t7 (.int .i64 (.ofNat 1)) H fun t10 H =>
  guardA t10 false (pEql t7 (.int .i64 (.ofNat 17)) H fun t13 H =>
  S_live_Reads_11 call t2 t3 t7 t10 t13 H) (S_live_Reads_11 call t2 t3 t7 t10 U H)
noncomputable def S_live_Reads : Ff := ⟨fun call l H => argA2 (fun t0 t1 => S_live_Reads_12 call t0 t1 H) l⟩
/- gantline/live.Writes -/
noncomputable def S_live_Writes_0 (call : CallFn) (t1 t3 t47 t49 : AV) (H : AHeap) : R :=
  pPick t47 (.bool true) t49 H fun t50 H =>
  onBool t50 (pFa 1 t1 H fun t51 H =>
  ldK .none H t51 fun t52 H =>
  pN (aBsl 1 1 [(.int .i64 (.ofNat 0))] [(0, 1, t52)]) H fun t53 H =>
  pC call n_live_given [t53] H fun t54 H =>
  some (t54, H)) (pEql t3 (.int .i64 (.ofNat 39)) H fun t57 H =>
  onBool t57 (pFa 1 t1 H fun t58 H =>
  ldK .none H t58 fun t59 H =>
  pFa 3 t1 H fun t60 H =>
  ldK .none H t60 fun t61 H =>
  pN (aBsl 1 2 [(.int .i64 (.ofNat 0))] [(0, 1, t59), (1, 1, t61)]) H fun t62 H =>
  pC call n_live_given [t62] H fun t63 H =>
  some (t63, H)) (some (.nilsl, H)))
noncomputable def S_live_Writes_1 (call : CallFn) (t1 t3 t37 t39 : AV) (H : AHeap) : R :=
  pPick t37 (.bool true) t39 H fun t40 H =>
  onBool t40 (pFa 1 t1 H fun t41 H =>
  ldK .none H t41 fun t42 H =>
  pN (aBsl 1 1 [(.int .i64 (.ofNat 0))] [(0, 1, t42)]) H fun t43 H =>
  some (t43, H)) (pEql t3 (.int .i64 (.ofNat 20)) H fun t46 H =>
  guardA t46 false (pEql t3 (.int .i64 (.ofNat 21)) H fun t49 H =>
  S_live_Writes_0 call t1 t3 t46 t49 H) (S_live_Writes_0 call t1 t3 t46 U H))
noncomputable def S_live_Writes_2 (call : CallFn) (t1 t3 t33 t35 : AV) (H : AHeap) : R :=
  pPick t33 (.bool true) t35 H fun t36 H =>
  guardA t36 false (pEql t3 (.int .i64 (.ofNat 37)) H fun t39 H =>
  S_live_Writes_1 call t1 t3 t36 t39 H) (S_live_Writes_1 call t1 t3 t36 U H)
noncomputable def S_live_Writes_3 (call : CallFn) (t1 t3 t29 t31 : AV) (H : AHeap) : R :=
  pPick t29 (.bool true) t31 H fun t32 H =>
  guardA t32 false (pEql t3 (.int .i64 (.ofNat 36)) H fun t35 H =>
  S_live_Writes_2 call t1 t3 t32 t35 H) (S_live_Writes_2 call t1 t3 t32 U H)
noncomputable def S_live_Writes_4 (call : CallFn) (t1 t3 t25 t27 : AV) (H : AHeap) : R :=
  pPick t25 (.bool true) t27 H fun t28 H =>
  guardA t28 false (pEql t3 (.int .i64 (.ofNat 34)) H fun t31 H =>
  S_live_Writes_3 call t1 t3 t28 t31 H) (S_live_Writes_3 call t1 t3 t28 U H)
noncomputable def S_live_Writes_5 (call : CallFn) (t1 t3 t21 t23 : AV) (H : AHeap) : R :=
  pPick t21 (.bool true) t23 H fun t24 H =>
  guardA t24 false (pEql t3 (.int .i64 (.ofNat 33)) H fun t27 H =>
  S_live_Writes_4 call t1 t3 t24 t27 H) (S_live_Writes_4 call t1 t3 t24 U H)
noncomputable def S_live_Writes_6 (call : CallFn) (t1 t3 t13 t19 : AV) (H : AHeap) : R :=
  pPick t13 (.bool true) t19 H fun t20 H =>
  guardA t20 false (pEql t3 (.int .i64 (.ofNat 30)) H fun t23 H =>
  S_live_Writes_5 call t1 t3 t20 t23 H) (S_live_Writes_5 call t1 t3 t20 U H)
noncomputable def S_live_Writes_7 (call : CallFn) (t1 t3 t13 t16 t18 : AV) (H : AHeap) : R :=
  guardA t13 false (pPick t16 t18 (.bool false) H fun t19 H =>
  S_live_Writes_6 call t1 t3 t13 t19 H) (S_live_Writes_6 call t1 t3 t13 U H)
noncomputable def S_live_Writes_8 (call : CallFn) (t1 t3 t13 t16 : AV) (H : AHeap) : R :=
  guardA t16 true (pLeq t3 (.int .i64 (.ofNat 27)) H fun t18 H =>
  S_live_Writes_7 call t1 t3 t13 t16 t18 H) (S_live_Writes_7 call t1 t3 t13 t16 U H)
noncomputable def S_live_Writes_9 (call : CallFn) (t1 t3 t9 t11 : AV) (H : AHeap) : R :=
  pPick t9 t11 (.bool false) H fun t12 H =>
  guardA t12 false (pGeq t3 (.int .i64 (.ofNat 25)) H fun t15 H =>
  S_live_Writes_8 call t1 t3 t12 t15 H) (S_live_Writes_8 call t1 t3 t12 U H)
noncomputable def S_live_Writes_10 (call : CallFn) (t0 : AV) (H : AHeap) : R :=
  pBox t0 H fun t1 H =>
  pFa 0 t1 H fun t4 H =>
  ldK .none H t4 fun t5 H =>
  pGeq t5 (.int .i64 (.ofNat 0)) H fun t8 H =>
  guardA t8 true (pLeq t5 (.int .i64 (.ofNat 17)) H fun t11 H =>
  S_live_Writes_9 call t1 t5 t8 t11 H) (S_live_Writes_9 call t1 t5 t8 U H)
noncomputable def S_live_Writes : Ff := ⟨fun call l H => argA1 (fun t0 => S_live_Writes_10 call t0 H) l⟩
/- (*gantline/verify.checker).slots$1 -/
noncomputable def S_verify_checker_slots_c1_0 (_ : CallFn) (t6 t9 : AV) (H : AHeap) : R :=
  pPick t6 (.bool true) t9 H fun t10 H =>
  some (t10, H)
noncomputable def S_verify_checker_slots_c1_1 (call : CallFn) (t0 t1 : AV) (H : AHeap) : R :=
  pEql t0 (.int .i64 (.negSucc 0)) H fun t5 H =>
  guardA t5 false (ldK .none H t1 fun t7 H =>
  pC call n_verify_checker_slot [t7, t0] H fun t9 H =>
  S_verify_checker_slots_c1_0 call t5 t9 H) (S_verify_checker_slots_c1_0 call t5 U H)
noncomputable def S_verify_checker_slots_c1 : Ff := ⟨fun call l H => argA2 (fun t0 t1 => S_verify_checker_slots_c1_1 call t0 t1 H) l⟩
/- (*gantline/verify.checker).slot -/
noncomputable def S_verify_checker_slot_0 (_ : CallFn) (t7 t14 : AV) (H : AHeap) : R :=
  pPick t7 t14 (.bool false) H fun t15 H =>
  some (t15, H)
noncomputable def S_verify_checker_slot_1 (call : CallFn) (t0 t1 : AV) (H : AHeap) : R :=
  pGeq t1 (.int .i64 (.ofNat 0)) H fun t6 H =>
  guardA t6 true (pO (aNil t0) H fun t10 H =>
  pFa 6 t10 H fun t11 H =>
  pFa 2 t11 H fun t12 H =>
  ldK .none H t12 fun t13 H =>
  pLss t1 t13 H fun t14 H =>
  S_verify_checker_slot_0 call t6 t14 H) (S_verify_checker_slot_0 call t6 U H)
noncomputable def S_verify_checker_slot : Ff := ⟨fun call l H => argA2 (fun t0 t1 => S_verify_checker_slot_1 call t0 t1 H) l⟩
/- slices.ContainsFunc[[]int,int] -/
noncomputable def S_slices_ContainsFunc_int_0 (call : CallFn) (t0 t1 : AV) (H : AHeap) : R :=
  pC call n_slices_IndexFunc_int [t0, t1] H fun t7 H =>
  pGeq t7 (.int .i64 (.ofNat 0)) H fun t8 H =>
  some (t8, H)
noncomputable def S_slices_ContainsFunc_int : Ff := ⟨fun call l H => argA2 (fun t0 t1 => S_slices_ContainsFunc_int_0 call t0 t1 H) l⟩
/- (*gantline/verify.checker).slots$3 -/
noncomputable def S_verify_checker_slots_c3_0 (call : CallFn) (t0 t1 : AV) (H : AHeap) : R :=
  ldK .none H t1 fun t4 H =>
  pC call n_verify_checker_slot [t4, t0] H fun t6 H =>
  pO (aUn .not t6) H fun t7 H =>
  some (t7, H)
noncomputable def S_verify_checker_slots_c3 : Ff := ⟨fun call l H => argA2 (fun t0 t1 => S_verify_checker_slots_c3_0 call t0 t1 H) l⟩
/- (*gantline/verify.checker).is -/
noncomputable def S_verify_checker_is_0 (call : CallFn) (t0 t1 t2 : AV) (H : AHeap) : R :=
  pBox t0 H fun t3 H =>
  pBox t1 H fun t4 H =>
  pC call n_slices_ContainsFunc_int [t2, (.fn n_verify_checker_is_c1 [] [t3, t4])] H fun t9 H =>
  pO (aUn .not t9) H fun t10 H =>
  some (t10, H)
noncomputable def S_verify_checker_is : Ff := ⟨fun call l H => argA3 (fun t0 t1 t2 => S_verify_checker_is_0 call t0 t1 t2 H) l⟩
/- (*gantline/verify.checker).calls -/
noncomputable def S_verify_checker_calls_0 (_ : CallFn) (t36 t49 : AV) (H : AHeap) : R :=
  pPick t36 (.bool true) t49 H fun t50 H =>
  some (t50, H)
noncomputable def S_verify_checker_calls_1 (call : CallFn) (t36 t40 t48 : AV) (H : AHeap) : R :=
  guardA t36 false (pPick t40 t48 (.bool false) H fun t49 H =>
  S_verify_checker_calls_0 call t36 t49 H) (S_verify_checker_calls_0 call t36 U H)
noncomputable def S_verify_checker_calls_2 (call : CallFn) (t0 t3 t4 t36 t40 : AV) (H : AHeap) : R :=
  guardA t40 true (pFa 3 t4 H fun t42 H =>
  ldK .none H t42 fun t43 H =>
  pEql t43 (.int .i64 (.ofNat 2)) H fun t44 H =>
  pFa 1 t3 H fun t45 H =>
  ldK .none H t45 fun t46 H =>
  pN (aBsl 1 1 [(.int .i64 (.ofNat 0))] [(0, 1, t46)]) H fun t47 H =>
  pC call n_verify_checker_is [t0, t44, t47] H fun t48 H =>
  S_verify_checker_calls_1 call t36 t40 t48 H) (S_verify_checker_calls_1 call t36 t40 U H)
noncomputable def S_verify_checker_calls_3 (_ : CallFn) (t81 t90 : AV) (H : AHeap) : R :=
  pPick t81 t90 (.bool false) H fun t91 H =>
  some (t91, H)
noncomputable def S_verify_checker_calls_4 (_ : CallFn) (t109 t120 : AV) (H : AHeap) : R :=
  pPick t109 t120 (.bool false) H fun t121 H =>
  some (t121, H)
noncomputable def S_verify_checker_calls_5 (call : CallFn) (t109 t110 t116 t119 : AV) (H : AHeap) : R :=
  guardA t109 true (pC call n_verify_checker_is [t110, t116, t119] H fun t120 H =>
  S_verify_checker_calls_4 call t109 t120 H) (S_verify_checker_calls_4 call t109 U H)
noncomputable def S_verify_checker_calls_6 (call : CallFn) (t109 t110 t116 t118 : AV) (H : AHeap) : R :=
  guardA t109 true (pN (aBsl 1 1 [(.int .i64 (.ofNat 0))] [(0, 1, t118)]) H fun t119 H =>
  S_verify_checker_calls_5 call t109 t110 t116 t119 H) (S_verify_checker_calls_5 call t109 t110 t116 U H)
noncomputable def S_verify_checker_calls_7 (call : CallFn) (t109 t110 t116 t117 : AV) (H : AHeap) : R :=
  guardA t109 true (ldK .none H t117 fun t118 H =>
  S_verify_checker_calls_6 call t109 t110 t116 t118 H) (S_verify_checker_calls_6 call t109 t110 t116 U H)
noncomputable def S_verify_checker_calls_8 (call : CallFn) (t3 t109 t110 t116 : AV) (H : AHeap) : R :=
  guardA t109 true (pFa 1 t3 H fun t117 H =>
  S_verify_checker_calls_7 call t109 t110 t116 t117 H) (S_verify_checker_calls_7 call t109 t110 t116 U H)
noncomputable def S_verify_checker_calls_9 (call : CallFn) (t3 t109 t110 t115 : AV) (H : AHeap) : R :=
  guardA t109 true (pEql t115 (.int .i64 (.ofNat 2)) H fun t116 H =>
  S_verify_checker_calls_8 call t3 t109 t110 t116 H) (S_verify_checker_calls_8 call t3 t109 t110 U H)
noncomputable def S_verify_checker_calls_10 (call : CallFn) (t3 t109 t110 t114 : AV) (H : AHeap) : R :=
  guardA t109 true (ldK .none H t114 fun t115 H =>
  S_verify_checker_calls_9 call t3 t109 t110 t115 H) (S_verify_checker_calls_9 call t3 t109 t110 U H)
noncomputable def S_verify_checker_calls_11 (call : CallFn) (t3 t109 t110 t113 : AV) (H : AHeap) : R :=
  guardA t109 true (pFa 3 t113 H fun t114 H =>
  S_verify_checker_calls_10 call t3 t109 t110 t114 H) (S_verify_checker_calls_10 call t3 t109 t110 U H)
noncomputable def S_verify_checker_calls_12 (call : CallFn) (t3 t109 t110 t112 : AV) (H : AHeap) : R :=
  guardA t109 true (pFa 6 t112 H fun t113 H =>
  S_verify_checker_calls_11 call t3 t109 t110 t113 H) (S_verify_checker_calls_11 call t3 t109 t110 U H)
noncomputable def S_verify_checker_calls_13 (call : CallFn) (t3 t109 t110 t111 : AV) (H : AHeap) : R :=
  guardA t109 true (pO (aNil t111) H fun t112 H =>
  S_verify_checker_calls_12 call t3 t109 t110 t112 H) (S_verify_checker_calls_12 call t3 t109 t110 U H)
noncomputable def S_verify_checker_calls_14 (call : CallFn) (t0 t3 t109 t110 : AV) (H : AHeap) : R :=
  guardA t109 true (S_verify_checker_calls_13 call t3 t109 t110 t0 H) (S_verify_checker_calls_13 call t3 t109 t110 U H)
noncomputable def S_verify_checker_calls_15 (call : CallFn) (t0 : AV) (H : AHeap) : R :=
  pO (aNil t0) H fun t11 H =>
  pFa 17 t11 H fun t12 H =>
  ldK (.some 5) H t12 fun t13 H =>
  pNew [(.int .i64 (.ofNat 0)), (.int .i64 (.ofNat 0)), (.int .i64 (.ofNat 0)), (.int .i64 (.ofNat 0)), (.int .i64 (.ofNat 0))] H fun t3 H =>
  stK 5 H t3 t13 fun _ H =>
  pFa 0 t3 H fun t14 H =>
  ldK .none H t14 fun t15 H =>
  pEql t15 (.int .i64 (.ofNat 20)) H fun t17 H =>
  onBool t17 (pFa 2 t3 H fun t20 H =>
  ldK .none H t20 fun t21 H =>
  pC call n_verify_checker_fn [t0, t21] H fun t22 H =>
  pExt t22 0 H fun t23 H =>
  pExt t22 1 H fun _ H =>
  pNew [(.int .i64 (.ofNat 0)), (.int .i64 (.ofNat 0)), (.int .i64 (.ofNat 0)), (.int .i64 (.ofNat 0)), .nilsl, .nilsl, .nilsl] H fun t4 H =>
  stK 7 H t4 t23 fun _ H =>
  ldK (.some 7) H t4 fun t26 H =>
  pFa 3 t3 H fun t27 H =>
  ldK .none H t27 fun t28 H =>
  pFa 0 t4 H fun t29 H =>
  ldK .none H t29 fun t30 H =>
  pC call n_verify_checker_args [t0, t26, (.int .i64 (.ofNat 0)), t28, t30] H fun t31 H =>
  pO (aUn .not t31) H fun t32 H =>
  onBool t32 (some ((.bool false), H)) (pFa 1 t3 H fun t33 H =>
  ldK .none H t33 fun t34 H =>
  pEql t34 (.int .i64 (.negSucc 0)) H fun t35 H =>
  guardA t35 false (pFa 3 t4 H fun t37 H =>
  ldK .none H t37 fun t38 H =>
  pGtr t38 (.int .i64 (.ofNat 0)) H fun t39 H =>
  S_verify_checker_calls_2 call t0 t3 t4 t35 t39 H) (S_verify_checker_calls_2 call t0 t3 t4 t35 U H))) (pEql t15 (.int .i64 (.ofNat 23)) H fun t52 H =>
  onBool t52 (pFa 1 t3 H fun t55 H =>
  ldK .none H t55 fun t56 H =>
  pC call n_verify_checker_fn [t0, t56] H fun t57 H =>
  pExt t57 0 H fun t58 H =>
  pExt t57 1 H fun _ H =>
  pNew [(.int .i64 (.ofNat 0)), (.int .i64 (.ofNat 0)), (.int .i64 (.ofNat 0)), (.int .i64 (.ofNat 0)), .nilsl, .nilsl, .nilsl] H fun t6 H =>
  stK 7 H t6 t58 fun _ H =>
  ldK (.some 7) H t6 fun t61 H =>
  pFa 2 t3 H fun t62 H =>
  ldK .none H t62 fun t63 H =>
  pFa 0 t6 H fun t64 H =>
  ldK .none H t64 fun t65 H =>
  pC call n_verify_checker_args [t0, t61, (.int .i64 (.ofNat 0)), t63, t65] H fun t66 H =>
  some (t66, H)) (pEql t15 (.int .i64 (.ofNat 36)) H fun t68 H =>
  onBool t68 (pFa 2 t3 H fun t71 H =>
  ldK .none H t71 fun t72 H =>
  pC call n_verify_checker_fn [t0, t72] H fun t73 H =>
  pExt t73 0 H fun t74 H =>
  pExt t73 1 H fun _ H =>
  pNew [(.int .i64 (.ofNat 0)), (.int .i64 (.ofNat 0)), (.int .i64 (.ofNat 0)), (.int .i64 (.ofNat 0)), .nilsl, .nilsl, .nilsl] H fun t8 H =>
  stK 7 H t8 t74 fun _ H =>
  pFa 1 t3 H fun t77 H =>
  ldK .none H t77 fun t78 H =>
  pN (aBsl 1 1 [(.int .i64 (.ofNat 0))] [(0, 1, t78)]) H fun t79 H =>
  pC call n_verify_checker_is [t0, (.bool true), t79] H fun t80 H =>
  guardA t80 true (ldK (.some 7) H t8 fun t83 H =>
  pFa 0 t8 H fun t84 H =>
  ldK .none H t84 fun t85 H =>
  pFa 3 t3 H fun t86 H =>
  ldK .none H t86 fun t87 H =>
  pFa 1 t8 H fun t88 H =>
  ldK .none H t88 fun t89 H =>
  pC call n_verify_checker_args [t0, t83, t85, t87, t89] H fun t90 H =>
  S_verify_checker_calls_3 call t80 t90 H) (S_verify_checker_calls_3 call t80 U H)) (pEql t15 (.int .i64 (.ofNat 22)) H fun t93 H =>
  onBool t93 (pFa 1 t3 H fun t94 H =>
  ldK .none H t94 fun t95 H =>
  pEql t95 (.int .i64 (.negSucc 0)) H fun t96 H =>
  onBool t96 (pO (aNil t0) H fun t98 H =>
  pFa 6 t98 H fun t99 H =>
  pFa 3 t99 H fun t100 H =>
  ldK .none H t100 fun t101 H =>
  pEql t101 (.int .i64 (.ofNat 0)) H fun t102 H =>
  some (t102, H)) (pO (aNil t0) H fun t104 H =>
  pFa 6 t104 H fun t105 H =>
  pFa 3 t105 H fun t106 H =>
  ldK .none H t106 fun t107 H =>
  pGtr t107 (.int .i64 (.ofNat 0)) H fun t108 H =>
  guardA t108 true (S_verify_checker_calls_14 call t0 t3 t108 t0 H) (S_verify_checker_calls_14 call t0 t3 t108 U H))) (some ((.bool true), H)))))
noncomputable def S_verify_checker_calls : Ff := ⟨fun call l H => argA1 (fun t0 => S_verify_checker_calls_15 call t0 H) l⟩
/- (*gantline/verify.checker).targets -/
noncomputable def S_verify_checker_targets_0 (_ : CallFn) (n : Nat) : AV → AV → AV → AV → AHeap → R :=
  Nat.rec (motive := fun _ => AV → AV → AV → AV → AHeap → R) (fun _ _ _ _ _ => none) (fun _ q0 t3 t36 t37 t38 H => pLss t38 t37 H fun t39 H =>
  onBool t39 (pIa 4 t36 t38 H fun t40 H =>
  ldK (.some 4) H t40 fun t41 H =>
  pNew [(.int .i64 (.ofNat 0)), (.int .i64 (.ofNat 0)), (.int .i64 (.ofNat 0)), (.int .i64 (.ofNat 0))] H fun t7 H =>
  stK 4 H t7 t41 fun _ H =>
  pFa 3 t7 H fun t43 H =>
  ldK .none H t43 fun t44 H =>
  pN (aBsl 1 1 [(.int .i64 (.ofNat 0))] [(0, 1, t44)]) H fun t45 H =>
  pW (aApp 1 8 H t3 t45) fun t46 H =>
  pAdd t38 (.int .i64 (.ofNat 1)) H fun t47 H =>
  q0 t46 t36 t37 t47 H) (some (t3, H))) n
noncomputable def S_verify_checker_targets_1 (call : CallFn) (t0 : AV) (H : AHeap) : R :=
  pO (aNil t0) H fun t9 H =>
  pFa 17 t9 H fun t10 H =>
  pFa 0 t10 H fun t11 H =>
  ldK .none H t11 fun t12 H =>
  pEql t12 (.int .i64 (.ofNat 18)) H fun t14 H =>
  onBool t14 (pO (aNil t0) H fun t16 H =>
  pFa 17 t16 H fun t17 H =>
  pFa 1 t17 H fun t18 H =>
  ldK .none H t18 fun t19 H =>
  pN (aBsl 1 1 [(.int .i64 (.ofNat 0))] [(0, 1, t19)]) H fun t20 H =>
  some (t20, H)) (pEql t12 (.int .i64 (.ofNat 19)) H fun t22 H =>
  onBool t22 (pO (aNil t0) H fun t24 H =>
  pFa 17 t24 H fun t25 H =>
  pFa 2 t25 H fun t26 H =>
  ldK .none H t26 fun t27 H =>
  pN (aBsl 1 1 [(.int .i64 (.ofNat 0))] [(0, 1, t27)]) H fun t28 H =>
  some (t28, H)) (pEql t12 (.int .i64 (.ofNat 41)) H fun t30 H =>
  onBool t30 (pC call n_verify_checker_cases [t0] H fun t33 H =>
  pExt t33 0 H fun t34 H =>
  pExt t33 1 H fun _ H =>
  pO (aLen .sl H t34) H fun t37 H =>
  S_verify_checker_targets_0 call 1000000 .nilsl t34 t37 (.int .i64 (.ofNat 0)) H) (some (.nilsl, H))))
noncomputable def S_verify_checker_targets : Ff := ⟨fun call l H => argA1 (fun t0 => S_verify_checker_targets_1 call t0 H) l⟩
end Go.Proofs.YtdccenbljfanpaaGreatDoor
