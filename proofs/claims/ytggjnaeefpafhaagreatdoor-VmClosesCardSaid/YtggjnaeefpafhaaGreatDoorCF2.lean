/- Plain functions, printed: part 2. -/
import Derived.Test.YtggjnaeefpafhaaGreatDoorAdE
import Derived.Test.YtggjnaeefpafhaaGreatDoorProg
import Derived.KernelRfl
namespace Go.Proofs.YtggjnaeefpafhaaGreatDoor
open Go.Ab
set_option maxRecDepth 100000
/- (*gantline/arena.Arena).Spans -/
noncomputable def S209_0 (_ : CallFn) (t0 : AV) (H : AHeap) : R :=
  pO (aNil t0) H fun t4 H =>
  pFa 1 t4 H fun t5 H =>
  ldK .none H t5 fun t6 H =>
  pO (aLen .sl H t6) H fun t7 H =>
  some (t7, H)
noncomputable def S209 : Ff := ⟨fun call l H => argA1 (fun t0 => S209_0 call t0 H) l⟩
/- gantline/grey.New -/
noncomputable def S210_0 (_ : CallFn) (H : AHeap) : R :=
  pO (someAgg (aFill [.nilsl] [])) H fun t1 H =>
  pBox t1 H fun t2 H =>
  some (t2, H)
noncomputable def S210 : Ff := ⟨fun call l H => argA0 (S210_0 call H) l⟩
/- (*gantline/sched.Table).offered -/
noncomputable def S211_0 (_ : CallFn) (t14 t15 t66 t74 : AV) (H : AHeap) : R :=
  pPick t66 t74 (.bool false) H fun t75 H =>
  pFa 3 t15 H fun t76 H =>
  stK 1 H t76 t75 fun _ H =>
  ldK (.some 4) H t15 fun t77 H =>
  stK 4 H t14 t77 fun _ H =>
  ob (allM (fun o => o) [aLoad (.some 4) H t14]) fun vs => some (resV vs, H)
noncomputable def S211_1 (call : CallFn) (t14 t15 t66 t67 t69 t73 : AV) (H : AHeap) : R :=
  guardA t66 true (pC call 242 [t67, t69, t73] H fun t74 H =>
  S211_0 call t14 t15 t66 t74 H) (S211_0 call t14 t15 t66 U H)
noncomputable def S211_2 (call : CallFn) (t14 t15 t66 t67 t69 t72 : AV) (H : AHeap) : R :=
  guardA t66 true (ldK .none H t72 fun t73 H =>
  S211_1 call t14 t15 t66 t67 t69 t73 H) (S211_1 call t14 t15 t66 t67 t69 U H)
noncomputable def S211_3 (call : CallFn) (t14 t15 t66 t67 t69 t70 t71 : AV) (H : AHeap) : R :=
  guardA t66 true (pIa 1 t70 t71 H fun t72 H =>
  S211_2 call t14 t15 t66 t67 t69 t72 H) (S211_2 call t14 t15 t66 t67 t69 U H)
noncomputable def S211_4 (call : CallFn) (t6 t14 t15 t66 t67 t69 t70 : AV) (H : AHeap) : R :=
  guardA t66 true (S211_3 call t14 t15 t66 t67 t69 t70 t6 H) (S211_3 call t14 t15 t66 t67 t69 t70 U H)
noncomputable def S211_5 (call : CallFn) (t6 t14 t15 t18 t66 t67 t69 : AV) (H : AHeap) : R :=
  guardA t66 true (S211_4 call t6 t14 t15 t66 t67 t69 t18 H) (S211_4 call t6 t14 t15 t66 t67 t69 U H)
noncomputable def S211_6 (call : CallFn) (t6 t14 t15 t18 t66 t67 t68 : AV) (H : AHeap) : R :=
  guardA t66 true (ldK .none H t68 fun t69 H =>
  S211_5 call t6 t14 t15 t18 t66 t67 t69 H) (S211_5 call t6 t14 t15 t18 t66 t67 U H)
noncomputable def S211_7 (call : CallFn) (t6 t14 t15 t18 t66 t67 : AV) (H : AHeap) : R :=
  guardA t66 true (pFa 2 t15 H fun t68 H =>
  S211_6 call t6 t14 t15 t18 t66 t67 t68 H) (S211_6 call t6 t14 t15 t18 t66 t67 U H)
noncomputable def S211_8 (call : CallFn) (t1 t6 t14 t15 t18 t60 t64 : AV) (H : AHeap) : R :=
  pPick t60 t64 (.bool false) H fun t65 H =>
  guardA t65 true (S211_7 call t6 t14 t15 t18 t65 t1 H) (S211_7 call t6 t14 t15 t18 t65 U H)
noncomputable def S211_9 (call : CallFn) (t1 t6 t14 t15 t18 t60 t61 t63 : AV) (H : AHeap) : R :=
  guardA t60 true (pLss t61 t63 H fun t64 H =>
  S211_8 call t1 t6 t14 t15 t18 t60 t64 H) (S211_8 call t1 t6 t14 t15 t18 t60 U H)
noncomputable def S211_10 (call : CallFn) (t1 t6 t14 t15 t18 t60 t61 t62 : AV) (H : AHeap) : R :=
  guardA t60 true (pO (aLen .sl H t62) H fun t63 H =>
  S211_9 call t1 t6 t14 t15 t18 t60 t61 t63 H) (S211_9 call t1 t6 t14 t15 t18 t60 t61 U H)
noncomputable def S211_11 (call : CallFn) (t1 t6 t14 t15 t18 t60 t61 : AV) (H : AHeap) : R :=
  guardA t60 true (S211_10 call t1 t6 t14 t15 t18 t60 t61 t18 H) (S211_10 call t1 t6 t14 t15 t18 t60 t61 U H)
noncomputable def S211_12 (_ : CallFn) (t14 t15 t35 t39 : AV) (H : AHeap) : R :=
  pPick t35 (.bool true) t39 H fun t40 H =>
  pFa 3 t15 H fun t41 H =>
  stK 1 H t41 t40 fun _ H =>
  ldK (.some 4) H t15 fun t42 H =>
  stK 4 H t14 t42 fun _ H =>
  ob (allM (fun o => o) [aLoad (.some 4) H t14]) fun vs => some (resV vs, H)
noncomputable def S211_13 (call : CallFn) (t0 t1 t2 t6 t14 t15 t27 t29 : AV) (H : AHeap) : R :=
  pPick t27 t29 (.bool false) H fun t30 H =>
  onBool t30 (pFa 2 t15 H fun t32 H =>
  ldK .none H t32 fun t33 H =>
  pC call 242 [t1, t33, (.bool true)] H fun t34 H =>
  guardA t34 false (pFa 2 t15 H fun t37 H =>
  ldK .none H t37 fun t38 H =>
  pC call 242 [t1, t38, (.bool false)] H fun t39 H =>
  S211_12 call t14 t15 t34 t39 H) (S211_12 call t14 t15 t34 U H)) (pC call 47 [t2] H fun t45 H =>
  pExt t45 0 H fun t46 H =>
  pExt t45 1 H fun _ H =>
  pNew [(.int .i64 (.ofNat 0)), (.int .i64 (.ofNat 0)), .nilsl] H fun t16 H =>
  stK 3 H t16 t46 fun _ H =>
  pO (aNil t0) H fun t49 H =>
  pFa 0 t49 H fun t50 H =>
  pFa 4 t50 H fun t51 H =>
  ldK .none H t51 fun t52 H =>
  pFa 0 t16 H fun t53 H =>
  ldK .none H t53 fun t54 H =>
  pIa 7 t52 t54 H fun t55 H =>
  pFa 4 t55 H fun t56 H =>
  ldK .none H t56 fun t57 H =>
  pGeq t6 (.int .i64 (.ofNat 0)) H fun t59 H =>
  guardA t59 true (S211_11 call t1 t6 t14 t15 t57 t59 t6 H) (S211_11 call t1 t6 t14 t15 t57 t59 U H))
noncomputable def S211_14 (call : CallFn) (t0 t1 t2 t3 t4 t5 t6 : AV) (H : AHeap) : R :=
  pNew [(.int .i64 (.ofNat 0)), (.bool false), (.int .i64 (.ofNat 0)), (.bool false)] H fun t14 H =>
  pC call 104 [t2, t5] H fun t23 H =>
  pO (someAgg (aFill [(.int .i64 (.ofNat 0)), (.bool false), (.int .i64 (.ofNat 0)), (.bool false)] [(0, 1, t3), (1, 1, t4), (2, 1, t23)])) H fun t24 H =>
  pNew [(.int .i64 (.ofNat 0)), (.bool false), (.int .i64 (.ofNat 0)), (.bool false)] H fun t15 H =>
  stK 4 H t15 t24 fun _ H =>
  pEql t6 (.int .i64 (.negSucc 0)) H fun t26 H =>
  guardA t26 true (pO (aUn .not t4) H fun t29 H =>
  S211_13 call t0 t1 t2 t6 t14 t15 t26 t29 H) (S211_13 call t0 t1 t2 t6 t14 t15 t26 U H)
noncomputable def S211 : Ff := ⟨fun call l H => argA7 (fun t0 t1 t2 t3 t4 t5 t6 => S211_14 call t0 t1 t2 t3 t4 t5 t6 H) l⟩
/- gantline/chans.Closed -/
noncomputable def S212_0 (_ : CallFn) (t15 t19 : AV) (H : AHeap) : R :=
  pPick t15 (.bool true) t19 H fun t20 H =>
  some (t20, H)
noncomputable def S212_1 (call : CallFn) (t0 t1 : AV) (H : AHeap) : R :=
  pC call 246 [t0, t1] H fun t10 H =>
  pExt t10 0 H fun t11 H =>
  pExt t10 1 H fun _ H =>
  pO (aUn .not t11) H fun t14 H =>
  guardA t14 false (pC call 245 [t0, t1, (.int .i64 (.ofNat 3))] H fun t18 H =>
  pNeq t18 (.int .i64 (.ofNat 0)) H fun t19 H =>
  S212_0 call t14 t19 H) (S212_0 call t14 U H)
noncomputable def S212 : Ff := ⟨fun call l H => argA2 (fun t0 t1 => S212_1 call t0 t1 H) l⟩
/- gantline/chans.Count -/
noncomputable def S213_0 (call : CallFn) (t0 t1 : AV) (H : AHeap) : R :=
  pC call 246 [t0, t1] H fun t10 H =>
  pExt t10 0 H fun t11 H =>
  pExt t10 1 H fun _ H =>
  pO (aUn .not t11) H fun t14 H =>
  onBool t14 (some ((.int .i64 (.ofNat 0)), H)) (pC call 245 [t0, t1, (.int .i64 (.ofNat 1))] H fun t17 H =>
  some (t17, H))
noncomputable def S213 : Ff := ⟨fun call l H => argA2 (fun t0 t1 => S213_0 call t0 t1 H) l⟩
/- gantline/chans.Room -/
noncomputable def S214_0 (call : CallFn) (t0 t1 : AV) (H : AHeap) : R :=
  pC call 246 [t0, t1] H fun t10 H =>
  pExt t10 0 H fun t11 H =>
  pExt t10 1 H fun _ H =>
  pO (aUn .not t11) H fun t14 H =>
  onBool t14 (some ((.int .i64 (.ofNat 0)), H)) (pC call 245 [t0, t1, (.int .i64 (.ofNat 0))] H fun t17 H =>
  some (t17, H))
noncomputable def S214 : Ff := ⟨fun call l H => argA2 (fun t0 t1 => S214_0 call t0 t1 H) l⟩
/- (*gantline/frame.Stack).Set -/
noncomputable def S216_0 (_ : CallFn) (t1 t2 t6 t15 t22 : AV) (H : AHeap) : R :=
  pPick t15 t22 (.bool false) H fun t23 H =>
  onBool t23 (pO (aNil t6) H fun t25 H =>
  pFa 2 t25 H fun t26 H =>
  ldK .none H t26 fun t27 H =>
  pIa 1 t27 t1 H fun t30 H =>
  stK 1 H t30 t2 fun _ H =>
  some (.tup [], H)) (some (.tup [], H))
noncomputable def S216_1 (call : CallFn) (t1 t2 t6 t11 t13 : AV) (H : AHeap) : R :=
  pPick t11 t13 (.bool false) H fun t14 H =>
  guardA t14 true (pO (aNil t6) H fun t18 H =>
  pFa 2 t18 H fun t19 H =>
  ldK .none H t19 fun t20 H =>
  pO (aLen .sl H t20) H fun t21 H =>
  pLss t1 t21 H fun t22 H =>
  S216_0 call t1 t2 t6 t14 t22 H) (S216_0 call t1 t2 t6 t14 U H)
noncomputable def S216_2 (call : CallFn) (t0 t1 t2 : AV) (H : AHeap) : R :=
  pC call 98 [t0] H fun t8 H =>
  pO (aEq true .ptr t8 .nilp) H fun t10 H =>
  guardA t10 true (pGeq t1 (.int .i64 (.ofNat 0)) H fun t13 H =>
  S216_1 call t1 t2 t8 t10 t13 H) (S216_1 call t1 t2 t8 t10 U H)
noncomputable def S216 : Ff := ⟨fun call l H => argA3 (fun t0 t1 t2 => S216_2 call t0 t1 t2 H) l⟩
/- gantline/bits.Wrap -/
noncomputable def S222_0 (_ : CallFn) (t0 : AV) (H : AHeap) : R :=
  pO (aBin .shl t0 (.int .u64 (.ofNat 1))) H fun t4 H =>
  pO (aBin .shr t4 (.int .u64 (.ofNat 1))) H fun t5 H =>
  some (t5, H)
noncomputable def S222 : Ff := ⟨fun call l H => argA1 (fun t0 => S222_0 call t0 H) l⟩
/- (*gantline/heap.Heap).Of -/
noncomputable def S226_0 (call : CallFn) (t0 t1 : AV) (H : AHeap) : R :=
  pNew [(.int .i64 (.ofNat 0)), (.int .i64 (.ofNat 0)), (.int .i64 (.ofNat 0))] H fun t4 H =>
  pNew [(.int .i64 (.ofNat 0)), (.int .i64 (.ofNat 0)), (.int .u64 (.ofNat 0))] H fun t5 H =>
  pO (aNil t0) H fun t13 H =>
  pFa 0 t13 H fun t14 H =>
  ldK .none H t14 fun t15 H =>
  pC call 23 [t15] H fun t16 H =>
  pC call 121 [t16, t1, (.int .i64 (.ofNat 0))] H fun t18 H =>
  pExt t18 0 H fun t19 H =>
  pExt t18 1 H fun t20 H =>
  pNeq t20 (.int .i64 (.ofNat 0)) H fun t22 H =>
  onBool t22 (pO (someAgg (aFill [(.int .i64 (.ofNat 0)), (.int .i64 (.ofNat 0)), (.int .i64 (.ofNat 0))] [])) H fun t23 H =>
  pO (someAgg (aFill [(.int .i64 (.ofNat 0)), (.int .i64 (.ofNat 0)), (.int .u64 (.ofNat 0))] [])) H fun t24 H =>
  stK 3 H t4 t23 fun _ H =>
  stK 3 H t5 t24 fun _ H =>
  ob (allM (fun o => o) [aLoad (.some 3) H t4, aLoad (.some 3) H t5, some (.bool false)]) fun vs => some (resV vs, H)) (pC call 122 [t19] H fun t27 H =>
  pExt t27 0 H fun t28 H =>
  pExt t27 1 H fun t29 H =>
  pNew [(.int .i64 (.ofNat 0)), (.int .i64 (.ofNat 0)), (.int .i64 (.ofNat 0))] H fun t9 H =>
  stK 3 H t9 t28 fun _ H =>
  pNeq t29 (.int .i64 (.ofNat 0)) H fun t31 H =>
  onBool t31 (pO (someAgg (aFill [(.int .i64 (.ofNat 0)), (.int .i64 (.ofNat 0)), (.int .i64 (.ofNat 0))] [])) H fun t32 H =>
  pO (someAgg (aFill [(.int .i64 (.ofNat 0)), (.int .i64 (.ofNat 0)), (.int .u64 (.ofNat 0))] [])) H fun t33 H =>
  stK 3 H t4 t32 fun _ H =>
  stK 3 H t5 t33 fun _ H =>
  ob (allM (fun o => o) [aLoad (.some 3) H t4, aLoad (.some 3) H t5, some (.bool false)]) fun vs => some (resV vs, H)) (pO (aNil t0) H fun t36 H =>
  pFa 0 t36 H fun t37 H =>
  ldK .none H t37 fun t38 H =>
  pFa 2 t9 H fun t40 H =>
  ldK .none H t40 fun t41 H =>
  pNew [(.int .i64 (.ofNat 0)), (.int .i64 (.ofNat 0)), (.int .u64 (.ofNat 0))] H fun t10 H =>
  pC call 88 [t38] H fun t39 H =>
  andR (andB (ckV (aLoad .none H t40) t41) true) (
  pC call 125 [t39, t41] H fun t42 H =>
  pExt t42 0 H fun t43 H =>
  pExt t42 1 H fun t44 H =>
  stK 3 H t10 t43 fun _ H =>
  pNeq t44 (.int .i64 (.ofNat 0)) H fun t46 H =>
  onBool t46 (pO (someAgg (aFill [(.int .i64 (.ofNat 0)), (.int .i64 (.ofNat 0)), (.int .i64 (.ofNat 0))] [])) H fun t47 H =>
  pO (someAgg (aFill [(.int .i64 (.ofNat 0)), (.int .i64 (.ofNat 0)), (.int .u64 (.ofNat 0))] [])) H fun t48 H =>
  stK 3 H t4 t47 fun _ H =>
  stK 3 H t5 t48 fun _ H =>
  ob (allM (fun o => o) [aLoad (.some 3) H t4, aLoad (.some 3) H t5, some (.bool false)]) fun vs => some (resV vs, H)) (ldK (.some 3) H t9 fun t49 H =>
  ldK (.some 3) H t10 fun t50 H =>
  stK 3 H t4 t49 fun _ H =>
  andR (andB (ckV (aLoad (.some 3) H t10) t50) true) (
  stK 3 H t5 t50 fun _ H =>
  ob (allM (fun o => o) [aLoad (.some 3) H t4, aLoad (.some 3) H t5, some (.bool true)]) fun vs => some (resV vs, H))))))
noncomputable def S226 : Ff := ⟨fun call l H => argA2 (fun t0 t1 => S226_0 call t0 t1 H) l⟩
/- (*gantline/frame.Stack).Return -/
noncomputable def S227_0 (_ : CallFn) (t0 : AV) (H : AHeap) : R :=
  pO (aNil t0) H fun t24 H =>
  pFa 0 t24 H fun t25 H =>
  ldK .none H t25 fun t26 H =>
  pO (aLen .sl H t26) H fun t27 H =>
  pGtr t27 (.int .i64 (.ofNat 0)) H fun t28 H =>
  some (t28, H)
noncomputable def S227_1 (call : CallFn) (t0 : AV) (H : AHeap) : R :=
  pO (aNil t0) H fun t4 H =>
  pFa 0 t4 H fun t5 H =>
  ldK .none H t5 fun t6 H =>
  pO (aLen .sl H t6) H fun t7 H =>
  pGtr t7 (.int .i64 (.ofNat 0)) H fun t8 H =>
  onBool t8 (pO (aNil t0) H fun t11 H =>
  pFa 0 t11 H fun t12 H =>
  ldK .none H t12 fun t13 H =>
  pO (aNil t0) H fun t15 H =>
  pFa 0 t15 H fun t16 H =>
  ldK .none H t16 fun t17 H =>
  pO (aLen .sl H t17) H fun t18 H =>
  pSub t18 (.int .i64 (.ofNat 1)) H fun t19 H =>
  pO (aSlice 3 H t13 .none (.some t19) .none) H fun t20 H =>
  pO (aNil t0) H fun t21 H =>
  pFa 0 t21 H fun t22 H =>
  stK 1 H t22 t20 fun _ H =>
  S227_0 call t0 H) (S227_0 call t0 H)
noncomputable def S227 : Ff := ⟨fun call l H => argA1 (fun t0 => S227_1 call t0 H) l⟩
/- (*gantline/sched.Table).Drop -/
noncomputable def S228_0 (_ : CallFn) (t0 t1 : AV) (H : AHeap) : R :=
  pO (aNil t0) H fun t5 H =>
  pFa 6 t5 H fun t6 H =>
  ldK .none H t6 fun t7 H =>
  pW (unitW (aDelete .int H t7 t1)) fun _ H =>
  some (.tup [], H)
noncomputable def S228 : Ff := ⟨fun call l H => argA2 (fun t0 t1 => S228_0 call t0 t1 H) l⟩
/- (*gantline/cycle.Cycle).Dies -/
noncomputable def S229_0 (_ : CallFn) (t0 t1 : AV) (H : AHeap) : R :=
  pO (aNil t0) H fun t5 H =>
  pFa 5 t5 H fun t6 H =>
  ldK .none H t6 fun t7 H =>
  pW (unitW (aDelete .int H t7 t1)) fun _ H =>
  some (.tup [], H)
noncomputable def S229 : Ff := ⟨fun call l H => argA2 (fun t0 t1 => S229_0 call t0 t1 H) l⟩
/- (*gantline/cycle.Cycle).Take -/
noncomputable def S232_0 (call : CallFn) (t0 t6 t7 t19 t21 : AV) (H : AHeap) : R :=
  pPick t19 t21 (.bool false) H fun t22 H =>
  onBool t22 (pO (aNil t0) H fun t24 H =>
  pFa 0 t24 H fun t25 H =>
  ldK .none H t25 fun t26 H =>
  pC call 248 [t26, t6] H fun _ H =>
  some (.tup [t6, t7], H)) (some (.tup [t6, t7], H))
noncomputable def S232_1 (call : CallFn) (t0 t1 : AV) (H : AHeap) : R :=
  pO (aNil t0) H fun t10 H =>
  pFa 2 t10 H fun t11 H =>
  ldK .none H t11 fun t12 H =>
  pC call 269 [t12, t1] H fun t14 H =>
  pExt t14 0 H fun t15 H =>
  pExt t14 1 H fun t16 H =>
  pEql t16 (.int .i64 (.ofNat 0)) H fun t18 H =>
  guardA t18 true (pC call 184 [t0] H fun t21 H =>
  S232_0 call t0 t15 t16 t18 t21 H) (S232_0 call t0 t15 t16 t18 U H)
noncomputable def S232 : Ff := ⟨fun call l H => argA2 (fun t0 t1 => S232_1 call t0 t1 H) l⟩
/- gantline/head.Pack -/
noncomputable def S234_0 (call : CallFn) (t0 : AV) (H : AHeap) : R :=
  pBox t0 H fun t1 H =>
  ldK (.some 3) H t1 fun t5 H =>
  pC call 193 [t5] H fun t6 H =>
  pO (aUn .not t6) H fun t7 H =>
  onBool t7 (some (.tup [(.int .i64 (.ofNat 0)), (.int .i64 (.ofNat 1))], H)) (pFa 0 t1 H fun t8 H =>
  ldK .none H t8 fun t9 H =>
  pConv .u64 t9 H fun t10 H =>
  pFa 1 t1 H fun t11 H =>
  ldK .none H t11 fun t12 H =>
  pConv .u64 t12 H fun t13 H =>
  pC call 236 [t10, (.int .i64 (.ofNat 7)), (.int .i64 (.ofNat 3)), t13] H fun t14 H =>
  pFa 2 t1 H fun t16 H =>
  ldK .none H t16 fun t17 H =>
  pConv .u64 t17 H fun t18 H =>
  pC call 236 [t14, (.int .i64 (.ofNat 10)), (.int .i64 (.ofNat 16)), t18] H fun t19 H =>
  pConv .i64 t19 H fun t20 H =>
  some (.tup [t20, (.int .i64 (.ofNat 0))], H))
noncomputable def S234 : Ff := ⟨fun call l H => argA1 (fun t0 => S234_0 call t0 H) l⟩
/- (*gantline/arena.Arena).Write -/
noncomputable def S235_0 (call : CallFn) (t0 t1 t2 t3 : AV) (H : AHeap) : R :=
  pC call 191 [t0, t1, t2] H fun t13 H =>
  pO (aEq false .ptr t13 .nilp) H fun t15 H =>
  onBool t15 (some ((.int .i64 (.ofNat 1)), H)) (pO (aNil t13) H fun t18 H =>
  stK 1 H t18 t3 fun _ H =>
  some ((.int .i64 (.ofNat 0)), H))
noncomputable def S235 : Ff := ⟨fun call l H => argA4 (fun t0 t1 t2 t3 => S235_0 call t0 t1 t2 t3 H) l⟩
/- gantline/bits.With -/
noncomputable def S236_0 (call : CallFn) (t0 t1 t2 t3 : AV) (H : AHeap) : R :=
  pC call 252 [t1, t2] H fun t11 H =>
  pO (aUn .not t11) H fun t12 H =>
  onBool t12 (some (t0, H)) (pC call 253 [t2] H fun t16 H =>
  pConv .u64 t1 H fun t18 H =>
  pO (aBin .shl t16 t18) H fun t19 H =>
  pAndN t0 t19 H fun t20 H =>
  pC call 253 [t2] H fun t23 H =>
  pAnd t3 t23 H fun t24 H =>
  pConv .u64 t1 H fun t26 H =>
  pO (aBin .shl t24 t26) H fun t27 H =>
  pOr t20 t27 H fun t28 H =>
  some (t28, H))
noncomputable def S236 : Ff := ⟨fun call l H => argA4 (fun t0 t1 t2 t3 => S236_0 call t0 t1 t2 t3 H) l⟩
/- gantline/chans.set -/
noncomputable def S238_0 (call : CallFn) (t0 t1 t2 t3 : AV) (H : AHeap) : R :=
  pC call 22 [t0] H fun t9 H =>
  pC call 23 [t9] H fun t10 H =>
  pAdd t2 (.int .i64 (.ofNat 1)) H fun t13 H =>
  pC call 235 [t10, t1, t13, t3] H fun _ H =>
  some (.tup [], H)
noncomputable def S238 : Ff := ⟨fun call l H => argA4 (fun t0 t1 t2 t3 => S238_0 call t0 t1 t2 t3 H) l⟩
/- gantline/chans.Is -/
noncomputable def S242_0 (_ : CallFn) (t16 t19 : AV) (H : AHeap) : R :=
  pPick t16 t19 (.bool false) H fun t20 H =>
  some (t20, H)
noncomputable def S242_1 (call : CallFn) (t0 t1 t2 : AV) (H : AHeap) : R :=
  pC call 246 [t0, t1] H fun t12 H =>
  pExt t12 0 H fun t13 H =>
  pExt t12 1 H fun t14 H =>
  guardA t13 true (pO (aEq false .bool t14 t2) H fun t19 H =>
  S242_0 call t13 t19 H) (S242_0 call t13 U H)
noncomputable def S242 : Ff := ⟨fun call l H => argA3 (fun t0 t1 t2 => S242_1 call t0 t1 t2 H) l⟩
/- gantline/chans.Close -/
noncomputable def S243_0 (call : CallFn) (t0 t1 : AV) (H : AHeap) : R :=
  pC call 212 [t0, t1] H fun t7 H =>
  onBool t7 (some ((.bool false), H)) (pC call 238 [t0, t1, (.int .i64 (.ofNat 3)), (.int .i64 (.ofNat 1))] H fun _ H =>
  some ((.bool true), H))
noncomputable def S243 : Ff := ⟨fun call l H => argA2 (fun t0 t1 => S243_0 call t0 t1 H) l⟩
/- gantline/chans.Push -/
noncomputable def S244_0 (call : CallFn) (t0 t1 t2 t9 : AV) (H : AHeap) : R :=
  pC call 238 [t0, t1, t9, t2] H fun _ H =>
  pC call 213 [t0, t1] H fun t61 H =>
  pAdd t61 (.int .i64 (.ofNat 1)) H fun t62 H =>
  pC call 238 [t0, t1, (.int .i64 (.ofNat 1)), t62] H fun _ H =>
  some ((.bool true), H)
noncomputable def S244_1 (call : CallFn) (t0 t1 t2 t3 t15 t22 : AV) (H : AHeap) : R :=
  pPick t15 (.bool true) t22 H fun t23 H =>
  onBool t23 (some ((.bool false), H)) (pC call 245 [t0, t1, (.int .i64 (.ofNat 2))] H fun t26 H =>
  pC call 213 [t0, t1] H fun t29 H =>
  pAdd t26 t29 H fun t30 H =>
  pC call 214 [t0, t1] H fun t33 H =>
  pO (aBin .rem t30 t33) H fun t34 H =>
  pAdd (.int .i64 (.ofNat 4)) t34 H fun t35 H =>
  pC call 246 [t0, t1] H fun t39 H =>
  pExt t39 0 H fun _ H =>
  pExt t39 1 H fun t41 H =>
  onBool t41 (pC call 22 [t0] H fun t44 H =>
  pC call 245 [t0, t1, t35] H fun t48 H =>
  pC call 172 [t44, t48, t2, t3] H fun _ H =>
  S244_0 call t0 t1 t2 t35 H) (S244_0 call t0 t1 t2 t35 H))
noncomputable def S244_2 (call : CallFn) (t0 t1 t2 t3 : AV) (H : AHeap) : R :=
  pC call 212 [t0, t1] H fun t14 H =>
  guardA t14 false (pC call 213 [t0, t1] H fun t18 H =>
  pC call 214 [t0, t1] H fun t21 H =>
  pGeq t18 t21 H fun t22 H =>
  S244_1 call t0 t1 t2 t3 t14 t22 H) (S244_1 call t0 t1 t2 t3 t14 U H)
noncomputable def S244 : Ff := ⟨fun call l H => argA4 (fun t0 t1 t2 t3 => S244_2 call t0 t1 t2 t3 H) l⟩
/- gantline/chans.get -/
noncomputable def S245_0 (call : CallFn) (t0 t1 t2 : AV) (H : AHeap) : R :=
  pC call 22 [t0] H fun t11 H =>
  pC call 23 [t11] H fun t12 H =>
  pAdd t2 (.int .i64 (.ofNat 1)) H fun t15 H =>
  pC call 121 [t12, t1, t15] H fun t16 H =>
  pExt t16 0 H fun t17 H =>
  pExt t16 1 H fun _ H =>
  some (t17, H)
noncomputable def S245 : Ff := ⟨fun call l H => argA3 (fun t0 t1 t2 => S245_0 call t0 t1 t2 H) l⟩
/- slices.Index[[]int,int] -/
noncomputable def S247_0 (_ : CallFn) (n : Nat) : AV → AV → AV → AV → AHeap → R :=
  Nat.rec (motive := fun _ => AV → AV → AV → AV → AHeap → R) (fun _ _ _ _ _ => none) (fun _ q0 t0 t1 t7 t8 H => pLss t8 t7 H fun t9 H =>
  onBool t9 (pIa 1 t0 t8 H fun t14 H =>
  ldK .none H t14 fun t15 H =>
  pEql t1 t15 H fun t16 H =>
  onBool t16 (some (t8, H)) (pAdd t8 (.int .i64 (.ofNat 1)) H fun t18 H =>
  q0 t0 t1 t7 t18 H)) (some ((.int .i64 (.negSucc 0)), H))) n
noncomputable def S247_1 (call : CallFn) (t0 t1 : AV) (H : AHeap) : R :=
  pO (aLen .sl H t0) H fun t7 H =>
  S247_0 call 1000000 t0 t1 t7 (.int .i64 (.ofNat 0)) H
noncomputable def S247 : Ff := ⟨fun call l H => argA2 (fun t0 t1 => S247_1 call t0 t1 H) l⟩
/- gantline/bits.within -/
noncomputable def S252_0 (_ : CallFn) (t15 t19 : AV) (H : AHeap) : R :=
  pPick t15 t19 (.bool false) H fun t20 H =>
  some (t20, H)
noncomputable def S252_1 (call : CallFn) (t0 t1 t11 t13 : AV) (H : AHeap) : R :=
  pPick t11 t13 (.bool false) H fun t14 H =>
  guardA t14 true (pSub (.int .i64 (.ofNat 64)) t1 H fun t18 H =>
  pLeq t0 t18 H fun t19 H =>
  S252_0 call t14 t19 H) (S252_0 call t14 U H)
noncomputable def S252_2 (call : CallFn) (t0 t1 t7 t9 : AV) (H : AHeap) : R :=
  pPick t7 t9 (.bool false) H fun t10 H =>
  guardA t10 true (pLeq t1 (.int .i64 (.ofNat 64)) H fun t13 H =>
  S252_1 call t0 t1 t10 t13 H) (S252_1 call t0 t1 t10 U H)
noncomputable def S252_3 (call : CallFn) (t0 t1 : AV) (H : AHeap) : R :=
  pGeq t0 (.int .i64 (.ofNat 0)) H fun t6 H =>
  guardA t6 true (pGeq t1 (.int .i64 (.ofNat 0)) H fun t9 H =>
  S252_2 call t0 t1 t6 t9 H) (S252_2 call t0 t1 t6 U H)
noncomputable def S252 : Ff := ⟨fun call l H => argA2 (fun t0 t1 => S252_3 call t0 t1 H) l⟩
/- gantline/bits.mask -/
noncomputable def S253_0 (_ : CallFn) (t0 : AV) (H : AHeap) : R :=
  pConv .u64 t0 H fun t4 H =>
  pO (aBin .shl (.int .u64 (.ofNat 1)) t4) H fun t5 H =>
  pSub t5 (.int .u64 (.ofNat 1)) H fun t6 H =>
  some (t6, H)
noncomputable def S253 : Ff := ⟨fun call l H => argA1 (fun t0 => S253_0 call t0 H) l⟩
/- math/bits.Len -/
noncomputable def S256_0 (call : CallFn) (t0 : AV) (H : AHeap) : R :=
  onBool (.bool false) (pConv .u32 t0 H fun t4 H =>
  pC call 280 [t4] H fun t5 H =>
  some (t5, H)) (pC call 281 [t0] H fun t7 H =>
  some (t7, H))
noncomputable def S256 : Ff := ⟨fun call l H => argA1 (fun t0 => S256_0 call t0 H) l⟩
/- slices.pdqsortOrdered[int] -/
noncomputable def S257_1 (call : CallFn) (q0 : AV → AV → AV → AV → AV → AV → AHeap → R) (t0 t1 t2 t3 t8 t9 t10 t11 t75 t86 : AV) (H : AHeap) : R :=
  pPick t75 t86 (.bool false) H fun t87 H =>
  onBool t87 (pC call 289 [t0, t1, t2, t11] H fun t92 H =>
  q0 t0 t92 t2 t3 t8 t9 H) (pC call 290 [t0, t1, t2, t11] H fun t99 H =>
  pExt t99 0 H fun t100 H =>
  pExt t99 1 H fun t101 H =>
  pSub t100 t1 H fun t105 H =>
  pSub t2 t100 H fun t108 H =>
  pO (aBin .quo t10 (.int .i64 (.ofNat 8))) H fun t110 H =>
  pLss t105 t108 H fun t113 H =>
  onBool t113 (pGeq t105 t110 H fun t116 H =>
  pC call 257 [t0, t1, t100, t3] H fun _ H =>
  pAdd t100 (.int .i64 (.ofNat 1)) H fun t123 H =>
  q0 t0 t123 t2 t3 t116 t101 H) (pGeq t108 t110 H fun t126 H =>
  pAdd t100 (.int .i64 (.ofNat 1)) H fun t129 H =>
  pC call 257 [t0, t129, t2, t3] H fun _ H =>
  q0 t0 t1 t100 t3 t126 t101 H))
noncomputable def S257_2 (call : CallFn) (q0 : AV → AV → AV → AV → AV → AV → AHeap → R) (t0 t1 t2 t3 t8 t9 t10 t11 t75 t85 : AV) (H : AHeap) : R :=
  guardA t75 true (pO (aUn .not t85) H fun t86 H =>
  S257_1 call q0 t0 t1 t2 t3 t8 t9 t10 t11 t75 t86 H) (S257_1 call q0 t0 t1 t2 t3 t8 t9 t10 t11 t75 U H)
noncomputable def S257_3 (call : CallFn) (q0 : AV → AV → AV → AV → AV → AV → AHeap → R) (t0 t1 t2 t3 t8 t9 t10 t11 t75 t80 t84 : AV) (H : AHeap) : R :=
  guardA t75 true (pC call 288 [t80, t84] H fun t85 H =>
  S257_2 call q0 t0 t1 t2 t3 t8 t9 t10 t11 t75 t85 H) (S257_2 call q0 t0 t1 t2 t3 t8 t9 t10 t11 t75 U H)
noncomputable def S257_4 (call : CallFn) (q0 : AV → AV → AV → AV → AV → AV → AHeap → R) (t0 t1 t2 t3 t8 t9 t10 t11 t75 t80 t83 : AV) (H : AHeap) : R :=
  guardA t75 true (ldK .none H t83 fun t84 H =>
  S257_3 call q0 t0 t1 t2 t3 t8 t9 t10 t11 t75 t80 t84 H) (S257_3 call q0 t0 t1 t2 t3 t8 t9 t10 t11 t75 t80 U H)
noncomputable def S257_5 (call : CallFn) (q0 : AV → AV → AV → AV → AV → AV → AHeap → R) (t0 t1 t2 t3 t8 t9 t10 t11 t75 t80 t81 t82 : AV) (H : AHeap) : R :=
  guardA t75 true (pIa 1 t81 t82 H fun t83 H =>
  S257_4 call q0 t0 t1 t2 t3 t8 t9 t10 t11 t75 t80 t83 H) (S257_4 call q0 t0 t1 t2 t3 t8 t9 t10 t11 t75 t80 U H)
noncomputable def S257_6 (call : CallFn) (q0 : AV → AV → AV → AV → AV → AV → AHeap → R) (t0 t1 t2 t3 t8 t9 t10 t11 t75 t80 t81 : AV) (H : AHeap) : R :=
  guardA t75 true (S257_5 call q0 t0 t1 t2 t3 t8 t9 t10 t11 t75 t80 t81 t11 H) (S257_5 call q0 t0 t1 t2 t3 t8 t9 t10 t11 t75 t80 t81 U H)
noncomputable def S257_7 (call : CallFn) (q0 : AV → AV → AV → AV → AV → AV → AHeap → R) (t0 t1 t2 t3 t8 t9 t10 t11 t75 t80 : AV) (H : AHeap) : R :=
  guardA t75 true (S257_6 call q0 t0 t1 t2 t3 t8 t9 t10 t11 t75 t80 t0 H) (S257_6 call q0 t0 t1 t2 t3 t8 t9 t10 t11 t75 t80 U H)
noncomputable def S257_8 (call : CallFn) (q0 : AV → AV → AV → AV → AV → AV → AHeap → R) (t0 t1 t2 t3 t8 t9 t10 t11 t75 t79 : AV) (H : AHeap) : R :=
  guardA t75 true (ldK .none H t79 fun t80 H =>
  S257_7 call q0 t0 t1 t2 t3 t8 t9 t10 t11 t75 t80 H) (S257_7 call q0 t0 t1 t2 t3 t8 t9 t10 t11 t75 U H)
noncomputable def S257_9 (call : CallFn) (q0 : AV → AV → AV → AV → AV → AV → AHeap → R) (t0 t1 t2 t3 t8 t9 t10 t11 t75 t76 t78 : AV) (H : AHeap) : R :=
  guardA t75 true (pIa 1 t76 t78 H fun t79 H =>
  S257_8 call q0 t0 t1 t2 t3 t8 t9 t10 t11 t75 t79 H) (S257_8 call q0 t0 t1 t2 t3 t8 t9 t10 t11 t75 U H)
noncomputable def S257_10 (call : CallFn) (q0 : AV → AV → AV → AV → AV → AV → AHeap → R) (t0 t1 t2 t3 t8 t9 t10 t11 t75 t76 t77 : AV) (H : AHeap) : R :=
  guardA t75 true (pSub t77 (.int .i64 (.ofNat 1)) H fun t78 H =>
  S257_9 call q0 t0 t1 t2 t3 t8 t9 t10 t11 t75 t76 t78 H) (S257_9 call q0 t0 t1 t2 t3 t8 t9 t10 t11 t75 t76 U H)
noncomputable def S257_11 (call : CallFn) (q0 : AV → AV → AV → AV → AV → AV → AHeap → R) (t0 t1 t2 t3 t8 t9 t10 t11 t75 t76 : AV) (H : AHeap) : R :=
  guardA t75 true (S257_10 call q0 t0 t1 t2 t3 t8 t9 t10 t11 t75 t76 t1 H) (S257_10 call q0 t0 t1 t2 t3 t8 t9 t10 t11 t75 t76 U H)
noncomputable def S257_12 (call : CallFn) (q0 : AV → AV → AV → AV → AV → AV → AHeap → R) (t0 t1 t2 t3 t8 t9 t10 t11 : AV) (H : AHeap) : R :=
  pGtr t1 (.int .i64 (.ofNat 0)) H fun t74 H =>
  guardA t74 true (S257_11 call q0 t0 t1 t2 t3 t8 t9 t10 t11 t74 t0 H) (S257_11 call q0 t0 t1 t2 t3 t8 t9 t10 t11 t74 U H)
noncomputable def S257_13 (call : CallFn) (q0 : AV → AV → AV → AV → AV → AV → AHeap → R) (t0 t1 t2 t3 t8 t9 t10 t11 t65 t67 : AV) (H : AHeap) : R :=
  pPick t65 t67 (.bool false) H fun t68 H =>
  onBool t68 (pC call 287 [t0, t1, t2] H fun t72 H =>
  onBool t72 (some (.tup [], H)) (S257_12 call q0 t0 t1 t2 t3 t8 t9 t10 t11 H)) (S257_12 call q0 t0 t1 t2 t3 t8 t9 t10 t11 H)
noncomputable def S257_14 (call : CallFn) (q0 : AV → AV → AV → AV → AV → AV → AHeap → R) (t0 t1 t2 t3 t8 t9 t10 t11 t12 t62 t63 : AV) (H : AHeap) : R :=
  pPick t62 t63 (.bool false) H fun t64 H =>
  guardA t64 true (pEql t12 (.int .i64 (.ofNat 1)) H fun t67 H =>
  S257_13 call q0 t0 t1 t2 t3 t8 t9 t10 t11 t64 t67 H) (S257_13 call q0 t0 t1 t2 t3 t8 t9 t10 t11 t64 U H)
noncomputable def S257_15 (call : CallFn) (q0 : AV → AV → AV → AV → AV → AV → AHeap → R) (t0 t1 t2 t3 t8 t9 t10 t11 t12 : AV) (H : AHeap) : R :=
  guardA t8 true (S257_14 call q0 t0 t1 t2 t3 t8 t9 t10 t11 t12 t8 t9 H) (S257_14 call q0 t0 t1 t2 t3 t8 t9 t10 t11 t12 t8 U H)
noncomputable def S257_16 (call : CallFn) (q0 : AV → AV → AV → AV → AV → AV → AHeap → R) (t0 t1 t2 t3 t8 t9 t10 : AV) (H : AHeap) : R :=
  pC call 285 [t0, t1, t2] H fun t46 H =>
  pExt t46 0 H fun t47 H =>
  pExt t46 1 H fun t48 H =>
  pEql t48 (.int .i64 (.ofNat 2)) H fun t50 H =>
  onBool t50 (pC call 286 [t0, t1, t2] H fun _ H =>
  pSub t2 (.int .i64 (.ofNat 1)) H fun t56 H =>
  pSub t47 t1 H fun t59 H =>
  pSub t56 t59 H fun t60 H =>
  S257_15 call q0 t0 t1 t2 t3 t8 t9 t10 t60 (.int .i64 (.ofNat 1)) H) (S257_15 call q0 t0 t1 t2 t3 t8 t9 t10 t47 t48 H)
noncomputable def S257_0 (call : CallFn) (n : Nat) : AV → AV → AV → AV → AV → AV → AHeap → R :=
  Nat.rec (motive := fun _ => AV → AV → AV → AV → AV → AV → AHeap → R) (fun _ _ _ _ _ _ _ => none) (fun _ q0 t0 t1 t2 t3 t8 t9 H => pSub t2 t1 H fun t21 H =>
  pLeq t21 (.int .i64 (.ofNat 12)) H fun t23 H =>
  onBool t23 (pC call 282 [t0, t1, t2] H fun _ H =>
  some (.tup [], H)) (pEql t3 (.int .i64 (.ofNat 0)) H fun t29 H =>
  onBool t29 (pC call 283 [t0, t1, t2] H fun _ H =>
  some (.tup [], H)) (pO (aUn .not t8) H fun t35 H =>
  onBool t35 (pC call 284 [t0, t1, t2] H fun _ H =>
  pSub t3 (.int .i64 (.ofNat 1)) H fun t41 H =>
  S257_16 call q0 t0 t1 t2 t41 t8 t9 t21 H) (S257_16 call q0 t0 t1 t2 t3 t8 t9 t21 H)))) n
noncomputable def S257 : Ff := ⟨fun call l H => argA4 (fun t0 t1 t2 t3 => S257_0 call 1000000 t0 t1 t2 t3 (.bool true) (.bool true) H) l⟩
/- gantline/live.given$1 -/
noncomputable def S258_0 (_ : CallFn) (t0 : AV) (H : AHeap) : R :=
  pEql t0 (.int .i64 (.negSucc 0)) H fun t4 H =>
  some (t4, H)
noncomputable def S258 : Ff := ⟨fun call l H => argA1 (fun t0 => S258_0 call t0 H) l⟩
/- gantline/verify.module$1 -/
noncomputable def S260_0 (call : CallFn) (t0 : AV) (H : AHeap) : R :=
  pBox t0 H fun t1 H =>
  ldK (.some 3) H t1 fun t3 H =>
  pC call 148 [t3] H fun t4 H =>
  pO (aUn .not t4) H fun t5 H =>
  some (t5, H)
noncomputable def S260 : Ff := ⟨fun call l H => argA1 (fun t0 => S260_0 call t0 H) l⟩
/- gantline/verify.module$2 -/
noncomputable def S261_0 (call : CallFn) (t0 : AV) (H : AHeap) : R :=
  pC call 222 [t0] H fun t4 H =>
  pNeq t4 t0 H fun t6 H =>
  some (t6, H)
noncomputable def S261 : Ff := ⟨fun call l H => argA1 (fun t0 => S261_0 call t0 H) l⟩
/- slices.ContainsFunc[[]gantline/head.Shape,gantline/head.Shape] -/
noncomputable def S262_0 (call : CallFn) (t0 t1 : AV) (H : AHeap) : R :=
  pC call 291 [t0, t1] H fun t7 H =>
  pGeq t7 (.int .i64 (.ofNat 0)) H fun t8 H =>
  some (t8, H)
noncomputable def S262 : Ff := ⟨fun call l H => argA2 (fun t0 t1 => S262_0 call t0 t1 H) l⟩
/- (*gantline/verify.checker).slots -/
noncomputable def S263_0 (_ : CallFn) (t31 t39 : AV) (H : AHeap) : R :=
  pPick t31 t39 (.bool false) H fun t40 H =>
  some (t40, H)
noncomputable def S263_1 (call : CallFn) (t1 t31 t32 t33 t34 t38 : AV) (H : AHeap) : R :=
  andR (andB (gdB t31 true (ckV (aLoad .none H t1) t32)) (andB (gdB t31 true (ckV (aLoad .none H t33) t34)) true)) (
  guardA t31 true (pC call 294 [t32, t34, t38] H fun t39 H =>
  S263_0 call t31 t39 H) (S263_0 call t31 U H))
noncomputable def S263_2 (call : CallFn) (t1 t31 t32 t33 t34 t35 t37 : AV) (H : AHeap) : R :=
  guardA t31 true (pC call 295 [t35, t37] H fun t38 H =>
  S263_1 call t1 t31 t32 t33 t34 t38 H) (S263_1 call t1 t31 t32 t33 t34 U H)
noncomputable def S263_3 (call : CallFn) (t1 t31 t32 t33 t34 t35 t36 : AV) (H : AHeap) : R :=
  guardA t31 true (ldK .none H t36 fun t37 H =>
  S263_2 call t1 t31 t32 t33 t34 t35 t37 H) (S263_2 call t1 t31 t32 t33 t34 t35 U H)
noncomputable def S263_4 (call : CallFn) (t1 t3 t31 t32 t33 t34 t35 : AV) (H : AHeap) : R :=
  guardA t31 true (pFa 2 t3 H fun t36 H =>
  S263_3 call t1 t31 t32 t33 t34 t35 t36 H) (S263_3 call t1 t31 t32 t33 t34 t35 U H)
noncomputable def S263_5 (call : CallFn) (t1 t3 t31 t32 t33 t34 : AV) (H : AHeap) : R :=
  guardA t31 true (ldK .none H t1 fun t35 H =>
  S263_4 call t1 t3 t31 t32 t33 t34 t35 H) (S263_4 call t1 t3 t31 t32 t33 t34 U H)
noncomputable def S263_6 (call : CallFn) (t1 t3 t31 t32 t33 : AV) (H : AHeap) : R :=
  guardA t31 true (ldK .none H t33 fun t34 H =>
  S263_5 call t1 t3 t31 t32 t33 t34 H) (S263_5 call t1 t3 t31 t32 t33 U H)
noncomputable def S263_7 (call : CallFn) (t1 t3 t31 t32 : AV) (H : AHeap) : R :=
  guardA t31 true (pFa 3 t3 H fun t33 H =>
  S263_6 call t1 t3 t31 t32 t33 H) (S263_6 call t1 t3 t31 t32 U H)
noncomputable def S263_8 (_ : CallFn) (t54 t60 : AV) (H : AHeap) : R :=
  pPick t54 t60 (.bool false) H fun t61 H =>
  some (t61, H)
noncomputable def S263_9 (call : CallFn) (t1 t3 t48 t52 : AV) (H : AHeap) : R :=
  pPick t48 t52 (.bool false) H fun t53 H =>
  guardA t53 true (ldK .none H t1 fun t55 H =>
  pFa 3 t3 H fun t56 H =>
  ldK .none H t56 fun t57 H =>
  pFa 4 t3 H fun t58 H =>
  ldK .none H t58 fun t59 H =>
  pC call 294 [t55, t57, t59] H fun t60 H =>
  S263_8 call t53 t60 H) (S263_8 call t53 U H)
noncomputable def S263_10 (_ : CallFn) (t87 t93 : AV) (H : AHeap) : R :=
  pPick t87 t93 (.bool false) H fun t94 H =>
  some (t94, H)
noncomputable def S263_11 (_ : CallFn) (t109 t115 : AV) (H : AHeap) : R :=
  pPick t109 t115 (.bool false) H fun t116 H =>
  some (t116, H)
noncomputable def S263_12 (_ : CallFn) (t130 t134 : AV) (H : AHeap) : R :=
  pPick t130 t134 (.bool false) H fun t135 H =>
  some (t135, H)
noncomputable def S263_13 (call : CallFn) (t3 t4 t124 t128 : AV) (H : AHeap) : R :=
  pPick t124 t128 (.bool false) H fun t129 H =>
  guardA t129 true (ldK .none H t4 fun t131 H =>
  pFa 3 t3 H fun t132 H =>
  ldK .none H t132 fun t133 H =>
  pV call t131 [t133] H fun t134 H =>
  S263_12 call t129 t134 H) (S263_12 call t129 U H)
noncomputable def S263_14 (call : CallFn) (t1 t3 t4 t5 t20 t22 : AV) (H : AHeap) : R :=
  pPick t20 (.bool true) t22 H fun t23 H =>
  onBool t23 (some ((.bool false), H)) (pEql t5 (.int .i64 (.ofNat 20)) H fun t26 H =>
  onBool t26 (ldK .none H t4 fun t27 H =>
  pFa 1 t3 H fun t28 H =>
  ldK .none H t28 fun t29 H =>
  pV call t27 [t29] H fun t30 H =>
  guardA t30 true (ldK .none H t1 fun t32 H =>
  S263_7 call t1 t3 t30 t32 H) (S263_7 call t1 t3 t30 U H)) (pEql t5 (.int .i64 (.ofNat 21)) H fun t43 H =>
  onBool t43 (ldK .none H t4 fun t44 H =>
  pFa 1 t3 H fun t45 H =>
  ldK .none H t45 fun t46 H =>
  pV call t44 [t46] H fun t47 H =>
  guardA t47 true (ldK .none H t1 fun t49 H =>
  pFa 2 t3 H fun t50 H =>
  ldK .none H t50 fun t51 H =>
  pC call 293 [t49, t51] H fun t52 H =>
  S263_9 call t1 t3 t47 t52 H) (S263_9 call t1 t3 t47 U H)) (pEql t5 (.int .i64 (.ofNat 22)) H fun t64 H =>
  onBool t64 (ldK .none H t4 fun t65 H =>
  pFa 1 t3 H fun t66 H =>
  ldK .none H t66 fun t67 H =>
  pV call t65 [t67] H fun t68 H =>
  some (t68, H)) (pEql t5 (.int .i64 (.ofNat 23)) H fun t71 H =>
  onBool t71 (ldK .none H t1 fun t72 H =>
  pFa 2 t3 H fun t73 H =>
  ldK .none H t73 fun t74 H =>
  ldK .none H t1 fun t75 H =>
  pFa 1 t3 H fun t76 H =>
  ldK .none H t76 fun t77 H =>
  pC call 295 [t75, t77] H fun t78 H =>
  andR (andB (ckV (aLoad .none H t1) t72) (andB (ckV (aLoad .none H t73) t74) true)) (
  pC call 294 [t72, t74, t78] H fun t79 H =>
  some (t79, H))) (pEql t5 (.int .i64 (.ofNat 24)) H fun t82 H =>
  onBool t82 (ldK .none H t1 fun t83 H =>
  pFa 1 t3 H fun t84 H =>
  ldK .none H t84 fun t85 H =>
  pC call 293 [t83, t85] H fun t86 H =>
  guardA t86 true (ldK .none H t1 fun t88 H =>
  pFa 2 t3 H fun t89 H =>
  ldK .none H t89 fun t90 H =>
  pFa 3 t3 H fun t91 H =>
  ldK .none H t91 fun t92 H =>
  pC call 294 [t88, t90, t92] H fun t93 H =>
  S263_10 call t86 t93 H) (S263_10 call t86 U H)) (pEql t5 (.int .i64 (.ofNat 36)) H fun t97 H =>
  onBool t97 (ldK .none H t1 fun t99 H =>
  pFa 2 t3 H fun t100 H =>
  ldK .none H t100 fun t101 H =>
  pC call 296 [t99, t101] H fun t102 H =>
  pExt t102 0 H fun t103 H =>
  pExt t102 1 H fun _ H =>
  pNew [(.int .i64 (.ofNat 0)), (.int .i64 (.ofNat 0)), (.int .i64 (.ofNat 0)), (.int .i64 (.ofNat 0)), .nilsl, .nilsl, .nilsl] H fun t6 H =>
  stK 7 H t6 t103 fun _ H =>
  ldK .none H t1 fun t105 H =>
  pFa 1 t3 H fun t106 H =>
  ldK .none H t106 fun t107 H =>
  pC call 293 [t105, t107] H fun t108 H =>
  guardA t108 true (ldK .none H t1 fun t110 H =>
  pFa 3 t3 H fun t111 H =>
  ldK .none H t111 fun t112 H =>
  pFa 1 t6 H fun t113 H =>
  ldK .none H t113 fun t114 H =>
  pC call 294 [t110, t112, t114] H fun t115 H =>
  S263_11 call t108 t115 H) (S263_11 call t108 U H)) (pEql t5 (.int .i64 (.ofNat 39)) H fun t119 H =>
  onBool t119 (ldK .none H t4 fun t120 H =>
  pFa 1 t3 H fun t121 H =>
  ldK .none H t121 fun t122 H =>
  pV call t120 [t122] H fun t123 H =>
  guardA t123 true (ldK .none H t1 fun t125 H =>
  pFa 2 t3 H fun t126 H =>
  ldK .none H t126 fun t127 H =>
  pC call 293 [t125, t127] H fun t128 H =>
  S263_13 call t3 t4 t123 t128 H) (S263_13 call t3 t4 t123 U H)) (pEql t5 (.int .i64 (.ofNat 41)) H fun t138 H =>
  onBool t138 (ldK .none H t1 fun t140 H =>
  pC call 297 [t140] H fun t141 H =>
  pExt t141 0 H fun t142 H =>
  pExt t141 1 H fun _ H =>
  pC call 298 [t142, (.fn 299 [] [t1, t4])] H fun t146 H =>
  pO (aUn .not t146) H fun t147 H =>
  some (t147, H)) (ldK .none H t1 fun t148 H =>
  pO (aNil t148) H fun t149 H =>
  pFa 0 t149 H fun t150 H =>
  ldK (.some 6) H t150 fun t151 H =>
  ldK (.some 5) H t3 fun t152 H =>
  ldK (.some 5) H t3 fun t154 H =>
  pC call 134 [t151, t152] H fun t153 H =>
  andR (andB (ckV (aLoad (.some 5) H t3) t154) true) (
  pC call 135 [t154] H fun t155 H =>
  pW (aApp 1 8 H t153 t155) fun t156 H =>
  pC call 300 [t156, (.fn 301 [] [t1])] H fun t158 H =>
  pO (aUn .not t158) H fun t159 H =>
  some (t159, H)))))))))))
noncomputable def S263_15 (call : CallFn) (t0 : AV) (H : AHeap) : R :=
  pBox t0 H fun t1 H =>
  ldK .none H t1 fun t10 H =>
  pO (aNil t10) H fun t11 H =>
  pFa 17 t11 H fun t12 H =>
  ldK (.some 5) H t12 fun t13 H =>
  pNew [(.int .i64 (.ofNat 0)), (.int .i64 (.ofNat 0)), (.int .i64 (.ofNat 0)), (.int .i64 (.ofNat 0)), (.int .i64 (.ofNat 0))] H fun t3 H =>
  stK 5 H t3 t13 fun _ H =>
  pNew [.nilfn] H fun t4 H =>
  stK 1 H t4 (.fn 292 [] [t1]) fun _ H =>
  pFa 0 t3 H fun t15 H =>
  ldK .none H t15 fun t16 H =>
  pLss t16 (.int .i64 (.ofNat 0)) H fun t19 H =>
  guardA t19 false (pGtr t16 (.int .i64 (.ofNat 44)) H fun t22 H =>
  S263_14 call t1 t3 t4 t16 t19 t22 H) (S263_14 call t1 t3 t4 t16 t19 U H)
noncomputable def S263 : Ff := ⟨fun call l H => argA1 (fun t0 => S263_15 call t0 H) l⟩
/- (*gantline/verify.checker).there -/
noncomputable def S264_0 (_ : CallFn) (t21 t30 : AV) (H : AHeap) : R :=
  pPick t21 t30 (.bool false) H fun t31 H =>
  some (t31, H)
noncomputable def S264_1 (call : CallFn) (t21 t23 t29 : AV) (H : AHeap) : R :=
  guardA t21 true (pLss t23 t29 H fun t30 H =>
  S264_0 call t21 t30 H) (S264_0 call t21 U H)
noncomputable def S264_2 (call : CallFn) (t21 t23 t28 : AV) (H : AHeap) : R :=
  guardA t21 true (pO (aLen .sl H t28) H fun t29 H =>
  S264_1 call t21 t23 t29 H) (S264_1 call t21 t23 U H)
noncomputable def S264_3 (call : CallFn) (t21 t23 t27 : AV) (H : AHeap) : R :=
  guardA t21 true (ldK .none H t27 fun t28 H =>
  S264_2 call t21 t23 t28 H) (S264_2 call t21 t23 U H)
noncomputable def S264_4 (call : CallFn) (t21 t23 t26 : AV) (H : AHeap) : R :=
  guardA t21 true (pFa 2 t26 H fun t27 H =>
  S264_3 call t21 t23 t27 H) (S264_3 call t21 t23 U H)
noncomputable def S264_5 (call : CallFn) (t21 t23 t25 : AV) (H : AHeap) : R :=
  guardA t21 true (pFa 0 t25 H fun t26 H =>
  S264_4 call t21 t23 t26 H) (S264_4 call t21 t23 U H)
noncomputable def S264_6 (call : CallFn) (t21 t23 t24 : AV) (H : AHeap) : R :=
  guardA t21 true (pO (aNil t24) H fun t25 H =>
  S264_5 call t21 t23 t25 H) (S264_5 call t21 t23 U H)
noncomputable def S264_7 (call : CallFn) (t0 t21 t23 : AV) (H : AHeap) : R :=
  guardA t21 true (S264_6 call t21 t23 t0 H) (S264_6 call t21 t23 U H)
noncomputable def S264_8 (call : CallFn) (t0 t21 t22 : AV) (H : AHeap) : R :=
  guardA t21 true (ldK .none H t22 fun t23 H =>
  S264_7 call t0 t21 t23 H) (S264_7 call t0 t21 U H)
noncomputable def S264_9 (_ : CallFn) (t55 t64 : AV) (H : AHeap) : R :=
  pPick t55 t64 (.bool false) H fun t65 H =>
  some (t65, H)
noncomputable def S264_10 (call : CallFn) (t55 t57 t63 : AV) (H : AHeap) : R :=
  guardA t55 true (pLss t57 t63 H fun t64 H =>
  S264_9 call t55 t64 H) (S264_9 call t55 U H)
noncomputable def S264_11 (call : CallFn) (t55 t57 t62 : AV) (H : AHeap) : R :=
  guardA t55 true (pO (aLen .sl H t62) H fun t63 H =>
  S264_10 call t55 t57 t63 H) (S264_10 call t55 t57 U H)
noncomputable def S264_12 (call : CallFn) (t55 t57 t61 : AV) (H : AHeap) : R :=
  guardA t55 true (ldK .none H t61 fun t62 H =>
  S264_11 call t55 t57 t62 H) (S264_11 call t55 t57 U H)
noncomputable def S264_13 (call : CallFn) (t55 t57 t60 : AV) (H : AHeap) : R :=
  guardA t55 true (pFa 1 t60 H fun t61 H =>
  S264_12 call t55 t57 t61 H) (S264_12 call t55 t57 U H)
noncomputable def S264_14 (call : CallFn) (t55 t57 t59 : AV) (H : AHeap) : R :=
  guardA t55 true (pFa 0 t59 H fun t60 H =>
  S264_13 call t55 t57 t60 H) (S264_13 call t55 t57 U H)
noncomputable def S264_15 (call : CallFn) (t55 t57 t58 : AV) (H : AHeap) : R :=
  guardA t55 true (pO (aNil t58) H fun t59 H =>
  S264_14 call t55 t57 t59 H) (S264_14 call t55 t57 U H)
noncomputable def S264_16 (call : CallFn) (t0 t55 t57 : AV) (H : AHeap) : R :=
  guardA t55 true (S264_15 call t55 t57 t0 H) (S264_15 call t55 t57 U H)
noncomputable def S264_17 (call : CallFn) (t0 t55 t56 : AV) (H : AHeap) : R :=
  guardA t55 true (ldK .none H t56 fun t57 H =>
  S264_16 call t0 t55 t57 H) (S264_16 call t0 t55 U H)
noncomputable def S264_18 (_ : CallFn) (t71 t80 : AV) (H : AHeap) : R :=
  pPick t71 t80 (.bool false) H fun t81 H =>
  some (t81, H)
noncomputable def S264_19 (call : CallFn) (t71 t73 t79 : AV) (H : AHeap) : R :=
  guardA t71 true (pLss t73 t79 H fun t80 H =>
  S264_18 call t71 t80 H) (S264_18 call t71 U H)
noncomputable def S264_20 (call : CallFn) (t71 t73 t78 : AV) (H : AHeap) : R :=
  guardA t71 true (pO (aLen .sl H t78) H fun t79 H =>
  S264_19 call t71 t73 t79 H) (S264_19 call t71 t73 U H)
noncomputable def S264_21 (call : CallFn) (t71 t73 t77 : AV) (H : AHeap) : R :=
  guardA t71 true (ldK .none H t77 fun t78 H =>
  S264_20 call t71 t73 t78 H) (S264_20 call t71 t73 U H)
noncomputable def S264_22 (call : CallFn) (t71 t73 t76 : AV) (H : AHeap) : R :=
  guardA t71 true (pFa 1 t76 H fun t77 H =>
  S264_21 call t71 t73 t77 H) (S264_21 call t71 t73 U H)
noncomputable def S264_23 (call : CallFn) (t71 t73 t75 : AV) (H : AHeap) : R :=
  guardA t71 true (pFa 0 t75 H fun t76 H =>
  S264_22 call t71 t73 t76 H) (S264_22 call t71 t73 U H)
noncomputable def S264_24 (call : CallFn) (t71 t73 t74 : AV) (H : AHeap) : R :=
  guardA t71 true (pO (aNil t74) H fun t75 H =>
  S264_23 call t71 t73 t75 H) (S264_23 call t71 t73 U H)
noncomputable def S264_25 (call : CallFn) (t0 t71 t73 : AV) (H : AHeap) : R :=
  guardA t71 true (S264_24 call t71 t73 t0 H) (S264_24 call t71 t73 U H)
noncomputable def S264_26 (call : CallFn) (t0 t71 t72 : AV) (H : AHeap) : R :=
  guardA t71 true (ldK .none H t72 fun t73 H =>
  S264_25 call t0 t71 t73 H) (S264_25 call t0 t71 U H)
noncomputable def S264_27 (_ : CallFn) (t92 t95 : AV) (H : AHeap) : R :=
  pPick t92 t95 (.bool false) H fun t96 H =>
  some (t96, H)
noncomputable def S264_28 (_ : CallFn) (t112 t115 : AV) (H : AHeap) : R :=
  pPick t112 t115 (.bool false) H fun t116 H =>
  some (t116, H)
noncomputable def S264_29 (call : CallFn) (t6 t107 t110 : AV) (H : AHeap) : R :=
  pPick t107 t110 (.bool false) H fun t111 H =>
  guardA t111 true (pFa 3 t6 H fun t113 H =>
  ldK .none H t113 fun t114 H =>
  pEql t114 (.int .i64 (.ofNat 0)) H fun t115 H =>
  S264_28 call t111 t115 H) (S264_28 call t111 U H)
noncomputable def S264_30 (_ : CallFn) (t142 t145 : AV) (H : AHeap) : R :=
  pPick t142 t145 (.bool false) H fun t146 H =>
  some (t146, H)
noncomputable def S264_31 (call : CallFn) (t0 : AV) (H : AHeap) : R :=
  pO (aNil t0) H fun t11 H =>
  pFa 17 t11 H fun t12 H =>
  ldK (.some 5) H t12 fun t13 H =>
  pNew [(.int .i64 (.ofNat 0)), (.int .i64 (.ofNat 0)), (.int .i64 (.ofNat 0)), (.int .i64 (.ofNat 0)), (.int .i64 (.ofNat 0))] H fun t3 H =>
  stK 5 H t3 t13 fun _ H =>
  pFa 0 t3 H fun t14 H =>
  ldK .none H t14 fun t15 H =>
  pEql t15 (.int .i64 (.ofNat 0)) H fun t17 H =>
  onBool t17 (pFa 2 t3 H fun t18 H =>
  ldK .none H t18 fun t19 H =>
  pGeq t19 (.int .i64 (.ofNat 0)) H fun t20 H =>
  guardA t20 true (pFa 2 t3 H fun t22 H =>
  S264_8 call t0 t20 t22 H) (S264_8 call t0 t20 U H)) (pEql t15 (.int .i64 (.ofNat 25)) H fun t33 H =>
  onBool t33 (pFa 2 t3 H fun t35 H =>
  ldK .none H t35 fun t36 H =>
  pC call 302 [t0, t36, (.int .i64 (.ofNat 0))] H fun t37 H =>
  some (t37, H)) (pEql t15 (.int .i64 (.ofNat 26)) H fun t39 H =>
  onBool t39 (pFa 2 t3 H fun t41 H =>
  ldK .none H t41 fun t42 H =>
  pC call 302 [t0, t42, (.int .i64 (.ofNat 1))] H fun t43 H =>
  some (t43, H)) (pEql t15 (.int .i64 (.ofNat 37)) H fun t45 H =>
  onBool t45 (pFa 2 t3 H fun t47 H =>
  ldK .none H t47 fun t48 H =>
  pC call 302 [t0, t48, (.int .i64 (.ofNat 3))] H fun t49 H =>
  some (t49, H)) (pEql t15 (.int .i64 (.ofNat 34)) H fun t51 H =>
  onBool t51 (pFa 2 t3 H fun t52 H =>
  ldK .none H t52 fun t53 H =>
  pGeq t53 (.int .i64 (.ofNat 0)) H fun t54 H =>
  guardA t54 true (pFa 2 t3 H fun t56 H =>
  S264_17 call t0 t54 t56 H) (S264_17 call t0 t54 U H)) (pEql t15 (.int .i64 (.ofNat 35)) H fun t67 H =>
  onBool t67 (pFa 1 t3 H fun t68 H =>
  ldK .none H t68 fun t69 H =>
  pGeq t69 (.int .i64 (.ofNat 0)) H fun t70 H =>
  guardA t70 true (pFa 1 t3 H fun t72 H =>
  S264_26 call t0 t70 t72 H) (S264_26 call t0 t70 U H)) (pEql t15 (.int .i64 (.ofNat 20)) H fun t83 H =>
  onBool t83 (pFa 2 t3 H fun t86 H =>
  ldK .none H t86 fun t87 H =>
  pC call 296 [t0, t87] H fun t88 H =>
  pExt t88 0 H fun t89 H =>
  pExt t88 1 H fun t90 H =>
  pNew [(.int .i64 (.ofNat 0)), (.int .i64 (.ofNat 0)), (.int .i64 (.ofNat 0)), (.int .i64 (.ofNat 0)), .nilsl, .nilsl, .nilsl] H fun t4 H =>
  stK 7 H t4 t89 fun _ H =>
  guardA t90 true (pFa 1 t4 H fun t93 H =>
  ldK .none H t93 fun t94 H =>
  pEql t94 (.int .i64 (.ofNat 0)) H fun t95 H =>
  S264_27 call t90 t95 H) (S264_27 call t90 U H)) (pEql t15 (.int .i64 (.ofNat 23)) H fun t98 H =>
  onBool t98 (pFa 1 t3 H fun t101 H =>
  ldK .none H t101 fun t102 H =>
  pC call 296 [t0, t102] H fun t103 H =>
  pExt t103 0 H fun t104 H =>
  pExt t103 1 H fun t105 H =>
  pNew [(.int .i64 (.ofNat 0)), (.int .i64 (.ofNat 0)), (.int .i64 (.ofNat 0)), (.int .i64 (.ofNat 0)), .nilsl, .nilsl, .nilsl] H fun t6 H =>
  stK 7 H t6 t104 fun _ H =>
  guardA t105 true (pFa 1 t6 H fun t108 H =>
  ldK .none H t108 fun t109 H =>
  pEql t109 (.int .i64 (.ofNat 0)) H fun t110 H =>
  S264_29 call t6 t105 t110 H) (S264_29 call t6 t105 U H)) (pEql t15 (.int .i64 (.ofNat 36)) H fun t118 H =>
  onBool t118 (pFa 2 t3 H fun t121 H =>
  ldK .none H t121 fun t122 H =>
  pC call 296 [t0, t122] H fun t123 H =>
  pExt t123 0 H fun t124 H =>
  pExt t123 1 H fun t125 H =>
  pNew [(.int .i64 (.ofNat 0)), (.int .i64 (.ofNat 0)), (.int .i64 (.ofNat 0)), (.int .i64 (.ofNat 0)), .nilsl, .nilsl, .nilsl] H fun t8 H =>
  stK 7 H t8 t124 fun _ H =>
  some (t125, H)) (pEql t15 (.int .i64 (.ofNat 21)) H fun t128 H =>
  onBool t128 (pFa 4 t3 H fun t129 H =>
  ldK .none H t129 fun t130 H =>
  pGeq t130 (.int .i64 (.ofNat 0)) H fun t131 H =>
  some (t131, H)) (pEql t15 (.int .i64 (.ofNat 24)) H fun t133 H =>
  onBool t133 (pFa 3 t3 H fun t134 H =>
  ldK .none H t134 fun t135 H =>
  pGeq t135 (.int .i64 (.ofNat 0)) H fun t136 H =>
  some (t136, H)) (pEql t15 (.int .i64 (.ofNat 44)) H fun t138 H =>
  onBool t138 (pFa 1 t3 H fun t139 H =>
  ldK .none H t139 fun t140 H =>
  pGeq t140 (.int .i64 (.ofNat 1)) H fun t141 H =>
  guardA t141 true (pFa 1 t3 H fun t143 H =>
  ldK .none H t143 fun t144 H =>
  pLeq t144 (.int .i64 (.ofNat 6)) H fun t145 H =>
  S264_30 call t141 t145 H) (S264_30 call t141 U H)) (pEql t15 (.int .i64 (.ofNat 41)) H fun t148 H =>
  onBool t148 (pC call 303 [t0] H fun t150 H =>
  some (t150, H)) (some ((.bool true), H))))))))))))))
noncomputable def S264 : Ff := ⟨fun call l H => argA1 (fun t0 => S264_31 call t0 H) l⟩
/- (*gantline/verify.checker).kinds -/
noncomputable def S265_0 (_ : CallFn) (t86 t93 : AV) (H : AHeap) : R :=
  pPick t86 t93 (.bool false) H fun t94 H =>
  some (t94, H)
noncomputable def S265_1 (_ : CallFn) (t117 t122 : AV) (H : AHeap) : R :=
  pPick t117 t122 (.bool false) H fun t123 H =>
  some (t123, H)
noncomputable def S265_2 (_ : CallFn) (t164 t169 : AV) (H : AHeap) : R :=
  pPick t164 t169 (.bool false) H fun t170 H =>
  some (t170, H)
noncomputable def S265_3 (_ : CallFn) (t183 t188 : AV) (H : AHeap) : R :=
  pPick t183 t188 (.bool false) H fun t189 H =>
  some (t189, H)
noncomputable def S265_4 (_ : CallFn) (t198 t203 : AV) (H : AHeap) : R :=
  pPick t198 t203 (.bool false) H fun t204 H =>
  some (t204, H)
noncomputable def S265_5 (_ : CallFn) (t247 t257 : AV) (H : AHeap) : R :=
  pPick t247 t257 (.bool false) H fun t258 H =>
  some (t258, H)
noncomputable def S265_6 (call : CallFn) (t247 t251 t256 : AV) (H : AHeap) : R :=
  guardA t247 true (pPick t251 (.bool true) t256 H fun t257 H =>
  S265_5 call t247 t257 H) (S265_5 call t247 U H)
noncomputable def S265_7 (call : CallFn) (t1 t3 t247 t251 : AV) (H : AHeap) : R :=
  guardA t251 false (ldK .none H t1 fun t252 H =>
  pFa 3 t3 H fun t253 H =>
  ldK .none H t253 fun t254 H =>
  pN (aBsl 1 1 [(.int .i64 (.ofNat 0))] [(0, 1, t254)]) H fun t255 H =>
  pC call 304 [t252, (.bool false), t255] H fun t256 H =>
  S265_6 call t247 t251 t256 H) (S265_6 call t247 t251 U H)
noncomputable def S265_8 (call : CallFn) (t1 t3 t4 t174 t176 : AV) (H : AHeap) : R :=
  pPick t174 (.bool true) t176 H fun t177 H =>
  onBool t177 (ldK .none H t1 fun t178 H =>
  pFa 1 t3 H fun t179 H =>
  ldK .none H t179 fun t180 H =>
  pN (aBsl 1 1 [(.int .i64 (.ofNat 0))] [(0, 1, t180)]) H fun t181 H =>
  pC call 304 [t178, (.bool true), t181] H fun t182 H =>
  guardA t182 true (ldK .none H t1 fun t184 H =>
  pFa 2 t3 H fun t185 H =>
  ldK .none H t185 fun t186 H =>
  pN (aBsl 1 1 [(.int .i64 (.ofNat 0))] [(0, 1, t186)]) H fun t187 H =>
  pC call 304 [t184, (.bool false), t187] H fun t188 H =>
  S265_3 call t182 t188 H) (S265_3 call t182 U H)) (pEql t4 (.int .i64 (.ofNat 33)) H fun t192 H =>
  onBool t192 (ldK .none H t1 fun t193 H =>
  pFa 1 t3 H fun t194 H =>
  ldK .none H t194 fun t195 H =>
  pN (aBsl 1 1 [(.int .i64 (.ofNat 0))] [(0, 1, t195)]) H fun t196 H =>
  pC call 304 [t193, (.bool false), t196] H fun t197 H =>
  guardA t197 true (ldK .none H t1 fun t199 H =>
  pFa 2 t3 H fun t200 H =>
  ldK .none H t200 fun t201 H =>
  pN (aBsl 1 1 [(.int .i64 (.ofNat 0))] [(0, 1, t201)]) H fun t202 H =>
  pC call 304 [t199, (.bool true), t202] H fun t203 H =>
  S265_4 call t197 t203 H) (S265_4 call t197 U H)) (pEql t4 (.int .i64 (.ofNat 34)) H fun t207 H =>
  onBool t207 (ldK .none H t1 fun t208 H =>
  ldK .none H t1 fun t209 H =>
  pO (aNil t209) H fun t210 H =>
  pFa 0 t210 H fun t211 H =>
  pFa 1 t211 H fun t212 H =>
  ldK .none H t212 fun t213 H =>
  pFa 2 t3 H fun t214 H =>
  ldK .none H t214 fun t215 H =>
  pIa 1 t213 t215 H fun t216 H =>
  ldK .none H t216 fun t217 H =>
  pFa 1 t3 H fun t218 H =>
  ldK .none H t218 fun t219 H =>
  pN (aBsl 1 1 [(.int .i64 (.ofNat 0))] [(0, 1, t219)]) H fun t220 H =>
  pC call 304 [t208, t217, t220] H fun t221 H =>
  some (t221, H)) (pEql t4 (.int .i64 (.ofNat 35)) H fun t224 H =>
  onBool t224 (ldK .none H t1 fun t225 H =>
  ldK .none H t1 fun t226 H =>
  pO (aNil t226) H fun t227 H =>
  pFa 0 t227 H fun t228 H =>
  pFa 1 t228 H fun t229 H =>
  ldK .none H t229 fun t230 H =>
  pFa 1 t3 H fun t231 H =>
  ldK .none H t231 fun t232 H =>
  pIa 1 t230 t232 H fun t233 H =>
  ldK .none H t233 fun t234 H =>
  pFa 2 t3 H fun t235 H =>
  ldK .none H t235 fun t236 H =>
  pN (aBsl 1 1 [(.int .i64 (.ofNat 0))] [(0, 1, t236)]) H fun t237 H =>
  pC call 304 [t225, t234, t237] H fun t238 H =>
  some (t238, H)) (pEql t4 (.int .i64 (.ofNat 39)) H fun t241 H =>
  onBool t241 (ldK .none H t1 fun t242 H =>
  pFa 2 t3 H fun t243 H =>
  ldK .none H t243 fun t244 H =>
  pN (aBsl 1 1 [(.int .i64 (.ofNat 0))] [(0, 1, t244)]) H fun t245 H =>
  pC call 304 [t242, (.bool true), t245] H fun t246 H =>
  guardA t246 true (pFa 3 t3 H fun t248 H =>
  ldK .none H t248 fun t249 H =>
  pEql t249 (.int .i64 (.negSucc 0)) H fun t250 H =>
  S265_7 call t1 t3 t246 t250 H) (S265_7 call t1 t3 t246 U H)) (pEql t4 (.int .i64 (.ofNat 41)) H fun t261 H =>
  onBool t261 (ldK .none H t1 fun t263 H =>
  pC call 297 [t263] H fun t264 H =>
  pExt t264 0 H fun t265 H =>
  pExt t264 1 H fun _ H =>
  pC call 298 [t265, (.fn 305 [] [t1])] H fun t269 H =>
  pO (aUn .not t269) H fun t270 H =>
  some (t270, H)) (ldK .none H t1 fun t271 H =>
  pC call 306 [t271] H fun t272 H =>
  some (t272, H)))))))
noncomputable def S265_9 (call : CallFn) (t1 t3 t4 t147 t149 : AV) (H : AHeap) : R :=
  pPick t147 (.bool true) t149 H fun t150 H =>
  onBool t150 (ldK .none H t1 fun t151 H =>
  pFa 1 t3 H fun t152 H =>
  ldK .none H t152 fun t153 H =>
  pN (aBsl 1 1 [(.int .i64 (.ofNat 0))] [(0, 1, t153)]) H fun t154 H =>
  pC call 304 [t151, (.bool true), t154] H fun t155 H =>
  some (t155, H)) (pEql t4 (.int .i64 (.ofNat 30)) H fun t158 H =>
  onBool t158 (ldK .none H t1 fun t159 H =>
  pFa 2 t3 H fun t160 H =>
  ldK .none H t160 fun t161 H =>
  pN (aBsl 1 1 [(.int .i64 (.ofNat 0))] [(0, 1, t161)]) H fun t162 H =>
  pC call 304 [t159, (.bool true), t162] H fun t163 H =>
  guardA t163 true (ldK .none H t1 fun t165 H =>
  pFa 3 t3 H fun t166 H =>
  ldK .none H t166 fun t167 H =>
  pN (aBsl 1 1 [(.int .i64 (.ofNat 0))] [(0, 1, t167)]) H fun t168 H =>
  pC call 304 [t165, (.bool false), t168] H fun t169 H =>
  S265_2 call t163 t169 H) (S265_2 call t163 U H)) (pEql t4 (.int .i64 (.ofNat 31)) H fun t173 H =>
  guardA t173 false (pEql t4 (.int .i64 (.ofNat 32)) H fun t176 H =>
  S265_8 call t1 t3 t4 t173 t176 H) (S265_8 call t1 t3 t4 t173 U H)))
noncomputable def S265_10 (call : CallFn) (t1 t3 t4 t143 t145 : AV) (H : AHeap) : R :=
  pPick t143 (.bool true) t145 H fun t146 H =>
  guardA t146 false (pEql t4 (.int .i64 (.ofNat 38)) H fun t149 H =>
  S265_9 call t1 t3 t4 t146 t149 H) (S265_9 call t1 t3 t4 t146 U H)
noncomputable def S265_11 (call : CallFn) (t1 t3 t4 t139 t141 : AV) (H : AHeap) : R :=
  pPick t139 (.bool true) t141 H fun t142 H =>
  guardA t142 false (pEql t4 (.int .i64 (.ofNat 24)) H fun t145 H =>
  S265_10 call t1 t3 t4 t142 t145 H) (S265_10 call t1 t3 t4 t142 U H)
noncomputable def S265_12 (call : CallFn) (t1 t3 t4 t127 t129 : AV) (H : AHeap) : R :=
  pPick t127 (.bool true) t129 H fun t130 H =>
  onBool t130 (ldK .none H t1 fun t131 H =>
  pFa 2 t3 H fun t132 H =>
  ldK .none H t132 fun t133 H =>
  pN (aBsl 1 1 [(.int .i64 (.ofNat 0))] [(0, 1, t133)]) H fun t134 H =>
  pC call 304 [t131, (.bool true), t134] H fun t135 H =>
  some (t135, H)) (pEql t4 (.int .i64 (.ofNat 28)) H fun t138 H =>
  guardA t138 false (pEql t4 (.int .i64 (.ofNat 29)) H fun t141 H =>
  S265_11 call t1 t3 t4 t138 t141 H) (S265_11 call t1 t3 t4 t138 U H))
noncomputable def S265_13 (call : CallFn) (t1 t3 t4 t108 t110 : AV) (H : AHeap) : R :=
  pPick t108 (.bool true) t110 H fun t111 H =>
  onBool t111 (ldK .none H t1 fun t112 H =>
  pFa 1 t3 H fun t113 H =>
  ldK .none H t113 fun t114 H =>
  pN (aBsl 1 1 [(.int .i64 (.ofNat 0))] [(0, 1, t114)]) H fun t115 H =>
  pC call 304 [t112, (.bool true), t115] H fun t116 H =>
  guardA t116 true (ldK .none H t1 fun t118 H =>
  pFa 3 t3 H fun t119 H =>
  ldK .none H t119 fun t120 H =>
  pN (aBsl 1 1 [(.int .i64 (.ofNat 0))] [(0, 1, t120)]) H fun t121 H =>
  pC call 304 [t118, (.bool false), t121] H fun t122 H =>
  S265_1 call t116 t122 H) (S265_1 call t116 U H)) (pEql t4 (.int .i64 (.ofNat 27)) H fun t126 H =>
  guardA t126 false (pEql t4 (.int .i64 (.ofNat 21)) H fun t129 H =>
  S265_12 call t1 t3 t4 t126 t129 H) (S265_12 call t1 t3 t4 t126 U H))
noncomputable def S265_14 (call : CallFn) (t1 t3 t4 t65 t67 : AV) (H : AHeap) : R :=
  pPick t65 t67 (.bool false) H fun t68 H =>
  onBool t68 (ldK .none H t1 fun t69 H =>
  pFa 1 t3 H fun t70 H =>
  ldK .none H t70 fun t71 H =>
  pFa 2 t3 H fun t72 H =>
  ldK .none H t72 fun t73 H =>
  pFa 3 t3 H fun t74 H =>
  ldK .none H t74 fun t75 H =>
  pN (aBsl 1 3 [(.int .i64 (.ofNat 0))] [(0, 1, t71), (1, 1, t73), (2, 1, t75)]) H fun t76 H =>
  pC call 304 [t69, (.bool false), t76] H fun t77 H =>
  some (t77, H)) (pEql t4 (.int .i64 (.ofNat 16)) H fun t80 H =>
  onBool t80 (ldK .none H t1 fun t81 H =>
  pFa 1 t3 H fun t82 H =>
  ldK .none H t82 fun t83 H =>
  pN (aBsl 1 1 [(.int .i64 (.ofNat 0))] [(0, 1, t83)]) H fun t84 H =>
  pC call 304 [t81, (.bool false), t84] H fun t85 H =>
  guardA t85 true (ldK .none H t1 fun t87 H =>
  pFa 2 t3 H fun t88 H =>
  ldK .none H t88 fun t89 H =>
  pFa 3 t3 H fun t90 H =>
  ldK .none H t90 fun t91 H =>
  pN (aBsl 1 2 [(.int .i64 (.ofNat 0))] [(0, 1, t89), (1, 1, t91)]) H fun t92 H =>
  pC call 304 [t87, (.bool true), t92] H fun t93 H =>
  S265_0 call t85 t93 H) (S265_0 call t85 U H)) (pEql t4 (.int .i64 (.ofNat 17)) H fun t97 H =>
  onBool t97 (ldK .none H t1 fun t98 H =>
  pFa 1 t3 H fun t99 H =>
  ldK .none H t99 fun t100 H =>
  pFa 2 t3 H fun t101 H =>
  ldK .none H t101 fun t102 H =>
  pN (aBsl 1 2 [(.int .i64 (.ofNat 0))] [(0, 1, t100), (1, 1, t102)]) H fun t103 H =>
  pC call 304 [t98, (.bool false), t103] H fun t104 H =>
  some (t104, H)) (pEql t4 (.int .i64 (.ofNat 26)) H fun t107 H =>
  guardA t107 false (pEql t4 (.int .i64 (.ofNat 37)) H fun t110 H =>
  S265_13 call t1 t3 t4 t107 t110 H) (S265_13 call t1 t3 t4 t107 U H))))
noncomputable def S265_15 (call : CallFn) (t1 t3 t4 t53 t55 : AV) (H : AHeap) : R :=
  pPick t53 (.bool true) t55 H fun t56 H =>
  onBool t56 (ldK .none H t1 fun t57 H =>
  pFa 1 t3 H fun t58 H =>
  ldK .none H t58 fun t59 H =>
  pN (aBsl 1 1 [(.int .i64 (.ofNat 0))] [(0, 1, t59)]) H fun t60 H =>
  pC call 304 [t57, (.bool true), t60] H fun t61 H =>
  some (t61, H)) (pGeq t4 (.int .i64 (.ofNat 3)) H fun t64 H =>
  guardA t64 true (pLeq t4 (.int .i64 (.ofNat 15)) H fun t67 H =>
  S265_14 call t1 t3 t4 t64 t67 H) (S265_14 call t1 t3 t4 t64 U H))
noncomputable def S265_16 (call : CallFn) (t1 t3 t4 t49 t51 : AV) (H : AHeap) : R :=
  pPick t49 (.bool true) t51 H fun t52 H =>
  guardA t52 false (pEql t4 (.int .i64 (.ofNat 40)) H fun t55 H =>
  S265_15 call t1 t3 t4 t52 t55 H) (S265_15 call t1 t3 t4 t52 U H)
noncomputable def S265_17 (call : CallFn) (t1 t3 t4 t20 t22 : AV) (H : AHeap) : R :=
  pPick t20 (.bool true) t22 H fun t23 H =>
  onBool t23 (ldK .none H t1 fun t24 H =>
  pFa 1 t3 H fun t25 H =>
  ldK .none H t25 fun t26 H =>
  pN (aBsl 1 1 [(.int .i64 (.ofNat 0))] [(0, 1, t26)]) H fun t27 H =>
  pC call 304 [t24, (.bool false), t27] H fun t28 H =>
  some (t28, H)) (pEql t4 (.int .i64 (.ofNat 1)) H fun t31 H =>
  onBool t31 (ldK .none H t1 fun t32 H =>
  ldK .none H t1 fun t33 H =>
  pO (aNil t33) H fun t34 H =>
  pFa 6 t34 H fun t35 H =>
  pFa 4 t35 H fun t36 H =>
  ldK .none H t36 fun t37 H =>
  pFa 2 t3 H fun t38 H =>
  ldK .none H t38 fun t39 H =>
  pIa 1 t37 t39 H fun t40 H =>
  ldK .none H t40 fun t41 H =>
  pFa 1 t3 H fun t42 H =>
  ldK .none H t42 fun t43 H =>
  pN (aBsl 1 1 [(.int .i64 (.ofNat 0))] [(0, 1, t43)]) H fun t44 H =>
  pC call 304 [t32, t41, t44] H fun t45 H =>
  some (t45, H)) (pEql t4 (.int .i64 (.ofNat 2)) H fun t48 H =>
  guardA t48 false (pEql t4 (.int .i64 (.ofNat 25)) H fun t51 H =>
  S265_16 call t1 t3 t4 t48 t51 H) (S265_16 call t1 t3 t4 t48 U H)))
noncomputable def S265_18 (call : CallFn) (t1 t3 t4 t16 t18 : AV) (H : AHeap) : R :=
  pPick t16 (.bool true) t18 H fun t19 H =>
  guardA t19 false (pEql t4 (.int .i64 (.ofNat 42)) H fun t22 H =>
  S265_17 call t1 t3 t4 t19 t22 H) (S265_17 call t1 t3 t4 t19 U H)
noncomputable def S265_19 (call : CallFn) (t0 : AV) (H : AHeap) : R :=
  pBox t0 H fun t1 H =>
  ldK .none H t1 fun t7 H =>
  pO (aNil t7) H fun t8 H =>
  pFa 17 t8 H fun t9 H =>
  ldK (.some 5) H t9 fun t10 H =>
  pNew [(.int .i64 (.ofNat 0)), (.int .i64 (.ofNat 0)), (.int .i64 (.ofNat 0)), (.int .i64 (.ofNat 0)), (.int .i64 (.ofNat 0))] H fun t3 H =>
  stK 5 H t3 t10 fun _ H =>
  pFa 0 t3 H fun t11 H =>
  ldK .none H t11 fun t12 H =>
  pEql t12 (.int .i64 (.ofNat 0)) H fun t15 H =>
  guardA t15 false (pEql t12 (.int .i64 (.ofNat 19)) H fun t18 H =>
  S265_18 call t1 t3 t12 t15 t18 H) (S265_18 call t1 t3 t12 t15 U H)
noncomputable def S265 : Ff := ⟨fun call l H => argA1 (fun t0 => S265_19 call t0 H) l⟩
/- (*gantline/verify.checker).on -/
noncomputable def S266_0 (_ : CallFn) (t42 : AV) (H : AHeap) : R :=
  onBool t42 (some ((.bool true), H)) (some ((.bool false), H))
noncomputable def S266_1 (call : CallFn) (t0 : AV) (H : AHeap) : R :=
  pO (aNil t0) H fun t26 H =>
  pFa 16 t26 H fun t27 H =>
  ldK .none H t27 fun t28 H =>
  pO (aNil t0) H fun t30 H =>
  pFa 6 t30 H fun t31 H =>
  pFa 5 t31 H fun t32 H =>
  ldK .none H t32 fun t33 H =>
  pO (aLen .sl H t33) H fun t34 H =>
  pSub t34 (.int .i64 (.ofNat 1)) H fun t35 H =>
  pLss t28 t35 H fun t36 H =>
  onBool t36 (some ((.bool true), H)) (pO (aNil t0) H fun t38 H =>
  pFa 17 t38 H fun t39 H =>
  pFa 0 t39 H fun t40 H =>
  ldK .none H t40 fun t41 H =>
  pEql t41 (.int .i64 (.ofNat 18)) H fun t43 H =>
  onBool t43 (S266_0 call t43 H) (pEql t41 (.int .i64 (.ofNat 22)) H fun t44 H =>
  onBool t44 (S266_0 call t44 H) (pEql t41 (.int .i64 (.ofNat 44)) H fun t45 H =>
  onBool t45 (S266_0 call t45 H) (pEql t41 (.int .i64 (.ofNat 41)) H fun t46 H =>
  S266_0 call t46 H))))
noncomputable def S266_3 (_ : CallFn) (q0 : AV → AV → AV → AV → AHeap → R) (t0 t6 t7 t8 t14 t22 : AV) (H : AHeap) : R :=
  pPick t14 (.bool true) t22 H fun t23 H =>
  onBool t23 (some ((.bool false), H)) (pAdd t8 (.int .i64 (.ofNat 1)) H fun t24 H =>
  q0 t0 t6 t7 t24 H)
noncomputable def S266_2 (call : CallFn) (n : Nat) : AV → AV → AV → AV → AHeap → R :=
  Nat.rec (motive := fun _ => AV → AV → AV → AV → AHeap → R) (fun _ _ _ _ _ => none) (fun _ q0 t0 t6 t7 t8 H => pLss t8 t7 H fun t9 H =>
  onBool t9 (pIa 1 t6 t8 H fun t10 H =>
  ldK .none H t10 fun t11 H =>
  pLss t11 (.int .i64 (.ofNat 0)) H fun t13 H =>
  guardA t13 false (pO (aNil t0) H fun t17 H =>
  pFa 6 t17 H fun t18 H =>
  pFa 5 t18 H fun t19 H =>
  ldK .none H t19 fun t20 H =>
  pO (aLen .sl H t20) H fun t21 H =>
  pGeq t11 t21 H fun t22 H =>
  S266_3 call q0 t0 t6 t7 t8 t13 t22 H) (S266_3 call q0 t0 t6 t7 t8 t13 U H)) (S266_1 call t0 H)) n
noncomputable def S266_4 (call : CallFn) (t0 : AV) (H : AHeap) : R :=
  pC call 307 [t0] H fun t6 H =>
  pO (aLen .sl H t6) H fun t7 H =>
  S266_2 call 1000000 t0 t6 t7 (.int .i64 (.ofNat 0)) H
noncomputable def S266 : Ff := ⟨fun call l H => argA1 (fun t0 => S266_4 call t0 H) l⟩
/- (*gantline/verify.checker).back -/
noncomputable def S267_1 (_ : CallFn) (q0 : AV → AV → AV → AV → AHeap → R) (t0 t6 t7 t8 t18 t28 : AV) (H : AHeap) : R :=
  pPick t18 t28 (.bool false) H fun t29 H =>
  onBool t29 (some ((.bool false), H)) (pAdd t8 (.int .i64 (.ofNat 1)) H fun t30 H =>
  q0 t0 t6 t7 t30 H)
noncomputable def S267_0 (call : CallFn) (n : Nat) : AV → AV → AV → AV → AHeap → R :=
  Nat.rec (motive := fun _ => AV → AV → AV → AV → AHeap → R) (fun _ _ _ _ _ => none) (fun _ q0 t0 t6 t7 t8 H => pLss t8 t7 H fun t9 H =>
  onBool t9 (pIa 1 t6 t8 H fun t10 H =>
  ldK .none H t10 fun t11 H =>
  pO (aNil t0) H fun t14 H =>
  pFa 16 t14 H fun t15 H =>
  ldK .none H t15 fun t16 H =>
  pLeq t11 t16 H fun t17 H =>
  guardA t17 true (pO (aNil t0) H fun t20 H =>
  pFa 6 t20 H fun t21 H =>
  pFa 5 t21 H fun t22 H =>
  ldK .none H t22 fun t23 H =>
  pIa 5 t23 t11 H fun t25 H =>
  pFa 0 t25 H fun t26 H =>
  ldK .none H t26 fun t27 H =>
  pNeq t27 (.int .i64 (.ofNat 43)) H fun t28 H =>
  S267_1 call q0 t0 t6 t7 t8 t17 t28 H) (S267_1 call q0 t0 t6 t7 t8 t17 U H)) (some ((.bool true), H))) n
noncomputable def S267_2 (call : CallFn) (t0 : AV) (H : AHeap) : R :=
  pC call 307 [t0] H fun t6 H =>
  pO (aLen .sl H t6) H fun t7 H =>
  S267_0 call 1000000 t0 t6 t7 (.int .i64 (.ofNat 0)) H
noncomputable def S267 : Ff := ⟨fun call l H => argA1 (fun t0 => S267_2 call t0 H) l⟩
/- (*gantline/verify.checker).bare -/
noncomputable def S268_0 (call : CallFn) (t0 : AV) (H : AHeap) : R :=
  pO (aNil t0) H fun t35 H =>
  pFa 6 t35 H fun t36 H =>
  ldK (.some 7) H t36 fun t37 H =>
  pO (aNil t0) H fun t39 H =>
  pFa 14 t39 H fun t40 H =>
  ldK .none H t40 fun t41 H =>
  pO (aNil t0) H fun t43 H =>
  pFa 16 t43 H fun t44 H =>
  ldK .none H t44 fun t45 H =>
  pC call 309 [t37, t41, t45] H fun t46 H =>
  some (t46, H)
noncomputable def S268_1 (call : CallFn) (t0 t9 t15 : AV) (H : AHeap) : R :=
  pPick t9 t15 (.bool false) H fun t16 H =>
  onBool t16 (some ((.bool true), H)) (pO (aNil t0) H fun t18 H =>
  pFa 14 t18 H fun t19 H =>
  ldK .none H t19 fun t20 H =>
  pO (aEq false .sl t20 .nilsl) H fun t21 H =>
  onBool t21 (pO (aNil t0) H fun t24 H =>
  pFa 0 t24 H fun t25 H =>
  ldK (.some 6) H t25 fun t26 H =>
  pO (aNil t0) H fun t28 H =>
  pFa 6 t28 H fun t29 H =>
  ldK (.some 7) H t29 fun t30 H =>
  pC call 308 [t26, t30] H fun t31 H =>
  pO (aNil t0) H fun t32 H =>
  pFa 14 t32 H fun t33 H =>
  stK 1 H t33 t31 fun _ H =>
  S268_0 call t0 H) (S268_0 call t0 H))
noncomputable def S268_2 (call : CallFn) (t0 : AV) (H : AHeap) : R :=
  pO (aNil t0) H fun t4 H =>
  pFa 17 t4 H fun t5 H =>
  pFa 0 t5 H fun t6 H =>
  ldK .none H t6 fun t7 H =>
  pNeq t7 (.int .i64 (.ofNat 29)) H fun t8 H =>
  guardA t8 true (pO (aNil t0) H fun t11 H =>
  pFa 17 t11 H fun t12 H =>
  pFa 0 t12 H fun t13 H =>
  ldK .none H t13 fun t14 H =>
  pNeq t14 (.int .i64 (.ofNat 32)) H fun t15 H =>
  S268_1 call t0 t8 t15 H) (S268_1 call t0 t8 U H)
noncomputable def S268 : Ff := ⟨fun call l H => argA1 (fun t0 => S268_2 call t0 H) l⟩
/- (*gantline/alloc.Alloc).Take -/
noncomputable def S269_1 (_ : CallFn) (q0 : AV → AV → AV → AV → AV → AHeap → R) (t0 t6 t94 t95 t96 : AV) (H : AHeap) : R :=
  pAdd t96 (.int .i64 (.ofNat 1)) H fun t118 H =>
  q0 t0 t6 t94 t95 t118 H
noncomputable def S269_0 (call : CallFn) (n : Nat) : AV → AV → AV → AV → AV → AHeap → R :=
  Nat.rec (motive := fun _ => AV → AV → AV → AV → AV → AHeap → R) (fun _ _ _ _ _ _ => none) (fun _ q0 t0 t6 t94 t95 t96 H => pLss t96 t95 H fun t97 H =>
  onBool t97 (pIa 1 t94 t96 H fun t99 H =>
  ldK .none H t99 fun t100 H =>
  onBool t100 (pC call 188 [t0, t96] H fun _ H =>
  pO (aNil t0) H fun t106 H =>
  pFa 0 t106 H fun t107 H =>
  ldK .none H t107 fun t108 H =>
  pC call 33 [t108, t96] H fun t110 H =>
  pEql t110 (.int .i64 (.negSucc 0)) H fun t111 H =>
  onBool t111 (pC call 313 [t0, t96, t6] H fun t115 H =>
  pExt t115 0 H fun t116 H =>
  pExt t115 1 H fun t117 H =>
  some (.tup [t116, t117], H)) (S269_1 call q0 t0 t6 t94 t95 t96 H)) (S269_1 call q0 t0 t6 t94 t95 t96 H)) (some (.tup [(.int .i64 (.ofNat 0)), (.int .i64 (.ofNat 5))], H))) n
noncomputable def S269_2 (call : CallFn) (t0 t6 : AV) (H : AHeap) : R :=
  pO (aNil t0) H fun t92 H =>
  pFa 1 t92 H fun t93 H =>
  ldK .none H t93 fun t94 H =>
  pO (aLen .sl H t94) H fun t95 H =>
  S269_0 call 1000000 t0 t6 t94 t95 (.int .i64 (.ofNat 0)) H
noncomputable def S269_3 (call : CallFn) (n : Nat) : AV → AV → AV → AHeap → R :=
  Nat.rec (motive := fun _ => AV → AV → AV → AHeap → R) (fun _ _ _ _ => none) (fun _ q1 t0 t6 t8 H => pO (aNil t0) H fun t71 H =>
  pFa 1 t71 H fun t72 H =>
  ldK .none H t72 fun t73 H =>
  pO (aLen .sl H t73) H fun t74 H =>
  pLss t8 t74 H fun t75 H =>
  onBool t75 (pO (aNil t0) H fun t79 H =>
  pFa 0 t79 H fun t80 H =>
  ldK .none H t80 fun t81 H =>
  pC call 33 [t81, t8] H fun t83 H =>
  pEql t83 (.int .i64 (.negSucc 0)) H fun t84 H =>
  onBool t84 (pC call 313 [t0, t8, t6] H fun t88 H =>
  pExt t88 0 H fun t89 H =>
  pExt t88 1 H fun t90 H =>
  some (.tup [t89, t90], H)) (pAdd t8 (.int .i64 (.ofNat 1)) H fun t77 H =>
  q1 t0 t6 t77 H)) (S269_2 call t0 t6 H)) n
noncomputable def S269_5 (_ : CallFn) (q2 : AV → AV → AV → AV → AHeap → R) (t0 t6 t19 t20 : AV) (H : AHeap) : R :=
  pAdd t20 (.int .i64 (.ofNat 1)) H fun t68 H =>
  q2 t0 t6 t19 t68 H
noncomputable def S269_6 (call : CallFn) (q2 : AV → AV → AV → AV → AHeap → R) (t0 t6 t7 t19 t20 t49 t58 : AV) (H : AHeap) : R :=
  pPick t49 t58 (.bool false) H fun t59 H =>
  onBool t59 (pO (aNil t0) H fun t61 H =>
  pFa 0 t61 H fun t62 H =>
  ldK .none H t62 fun t63 H =>
  pC call 312 [t63, t7] H fun t65 H =>
  pExt t65 0 H fun t66 H =>
  pExt t65 1 H fun t67 H =>
  some (.tup [t66, t67], H)) (S269_5 call q2 t0 t6 t19 t20 H)
noncomputable def S269_7 (call : CallFn) (q2 : AV → AV → AV → AV → AHeap → R) (t0 t6 t7 t19 t20 : AV) (H : AHeap) : R :=
  pO (aNil t0) H fun t42 H =>
  pFa 0 t42 H fun t43 H =>
  ldK .none H t43 fun t44 H =>
  pC call 33 [t44, t7] H fun t46 H =>
  pEql t46 t6 H fun t48 H =>
  guardA t48 true (pO (aNil t0) H fun t51 H =>
  pFa 0 t51 H fun t52 H =>
  ldK .none H t52 fun t53 H =>
  pC call 32 [t53, t7] H fun t55 H =>
  pC call 311 [t6] H fun t57 H =>
  pNeq t55 t57 H fun t58 H =>
  S269_6 call q2 t0 t6 t7 t19 t20 t48 t58 H) (S269_6 call q2 t0 t6 t7 t19 t20 t48 U H)
noncomputable def S269_4 (call : CallFn) (n : Nat) : AV → AV → AV → AV → AHeap → R :=
  Nat.rec (motive := fun _ => AV → AV → AV → AV → AHeap → R) (fun _ _ _ _ _ => none) (fun _ q2 t0 t6 t19 t20 H => pLss t20 t19 H fun t21 H =>
  onBool t21 (pO (aNil t0) H fun t24 H =>
  pFa 0 t24 H fun t25 H =>
  ldK .none H t25 fun t26 H =>
  pC call 33 [t26, t20] H fun t28 H =>
  pNeq t28 t6 H fun t30 H =>
  onBool t30 (S269_5 call q2 t0 t6 t19 t20 H) (pO (aNil t0) H fun t32 H =>
  pFa 1 t32 H fun t33 H =>
  ldK .none H t33 fun t34 H =>
  pIa 1 t34 t20 H fun t36 H =>
  ldK .none H t36 fun t37 H =>
  onBool t37 (pC call 188 [t0, t20] H fun _ H =>
  S269_7 call q2 t0 t6 t20 t19 t20 H) (S269_7 call q2 t0 t6 t20 t19 t20 H))) (S269_3 call 1000000 t0 t6 (.int .i64 (.ofNat 1)) H)) n
noncomputable def S269_8 (call : CallFn) (t0 t1 : AV) (H : AHeap) : R :=
  pC call 310 [t1] H fun t12 H =>
  pEql t12 (.int .i64 (.negSucc 0)) H fun t14 H =>
  onBool t14 (some (.tup [(.int .i64 (.ofNat 0)), (.int .i64 (.ofNat 1))], H)) (pO (aNil t0) H fun t16 H =>
  pFa 1 t16 H fun t17 H =>
  ldK .none H t17 fun t18 H =>
  pO (aLen .sl H t18) H fun t19 H =>
  S269_4 call 1000000 t0 t12 t19 (.int .i64 (.ofNat 0)) H)
noncomputable def S269 : Ff := ⟨fun call l H => argA2 (fun t0 t1 => S269_8 call t0 t1 H) l⟩
/- math/bits.Len64 -/
noncomputable def S281_0 (_ : CallFn) (t0 t2 : AV) (H : AHeap) : R :=
  pConv .u8 t0 H fun t21 H =>
  pO (aIdxS (.str [0, 1, 2, 2, 3, 3, 3, 3, 4, 4, 4, 4, 4, 4, 4, 4, 5, 5, 5, 5, 5, 5, 5, 5, 5, 5, 5, 5, 5, 5, 5, 5, 6, 6, 6, 6, 6, 6, 6, 6, 6, 6, 6, 6, 6, 6, 6, 6, 6, 6, 6, 6, 6, 6, 6, 6, 6, 6, 6, 6, 6, 6, 6, 6, 7, 7, 7, 7, 7, 7, 7, 7, 7, 7, 7, 7, 7, 7, 7, 7, 7, 7, 7, 7, 7, 7, 7, 7, 7, 7, 7, 7, 7, 7, 7, 7, 7, 7, 7, 7, 7, 7, 7, 7, 7, 7, 7, 7, 7, 7, 7, 7, 7, 7, 7, 7, 7, 7, 7, 7, 7, 7, 7, 7, 7, 7, 7, 7, 8, 8, 8, 8, 8, 8, 8, 8, 8, 8, 8, 8, 8, 8, 8, 8, 8, 8, 8, 8, 8, 8, 8, 8, 8, 8, 8, 8, 8, 8, 8, 8, 8, 8, 8, 8, 8, 8, 8, 8, 8, 8, 8, 8, 8, 8, 8, 8, 8, 8, 8, 8, 8, 8, 8, 8, 8, 8, 8, 8, 8, 8, 8, 8, 8, 8, 8, 8, 8, 8, 8, 8, 8, 8, 8, 8, 8, 8, 8, 8, 8, 8, 8, 8, 8, 8, 8, 8, 8, 8, 8, 8, 8, 8, 8, 8, 8, 8, 8, 8, 8, 8, 8, 8, 8, 8, 8, 8, 8, 8, 8, 8, 8, 8, 8, 8, 8, 8, 8, 8, 8, 8, 8, 8, 8, 8, 8, 8]) t21) H fun t22 H =>
  pConv .i64 t22 H fun t23 H =>
  pAdd t2 t23 H fun t24 H =>
  some (t24, H)
noncomputable def S281_1 (call : CallFn) (t0 t2 : AV) (H : AHeap) : R :=
  pGeq t0 (.int .u64 (.ofNat 256)) H fun t14 H =>
  onBool t14 (pO (aBin .shr t0 (.int .u64 (.ofNat 8))) H fun t16 H =>
  pAdd t2 (.int .i64 (.ofNat 8)) H fun t18 H =>
  S281_0 call t16 t18 H) (S281_0 call t0 t2 H)
noncomputable def S281_2 (call : CallFn) (t0 t2 : AV) (H : AHeap) : R :=
  pGeq t0 (.int .u64 (.ofNat 65536)) H fun t8 H =>
  onBool t8 (pO (aBin .shr t0 (.int .u64 (.ofNat 16))) H fun t10 H =>
  pAdd t2 (.int .i64 (.ofNat 16)) H fun t12 H =>
  S281_1 call t10 t12 H) (S281_1 call t0 t2 H)
noncomputable def S281_3 (call : CallFn) (t0 : AV) (H : AHeap) : R :=
  pGeq t0 (.int .u64 (.ofNat 4294967296)) H fun t4 H =>
  onBool t4 (pO (aBin .shr t0 (.int .u64 (.ofNat 32))) H fun t6 H =>
  S281_2 call t6 (.int .i64 (.ofNat 32)) H) (S281_2 call t0 (.int .i64 (.ofNat 0)) H)
noncomputable def S281 : Ff := ⟨fun call l H => argA1 (fun t0 => S281_3 call t0 H) l⟩
/- slices.insertionSortOrdered[int] -/
noncomputable def S282_1 (_ : CallFn) (q0 : AV → AV → AV → AV → AHeap → R) (t0 t1 t2 t6 : AV) (H : AHeap) : R :=
  pAdd t6 (.int .i64 (.ofNat 1)) H fun t14 H =>
  q0 t0 t1 t2 t14 H
noncomputable def S282_3 (call : CallFn) (q0 : AV → AV → AV → AV → AHeap → R) (q1 : AV → AV → AV → AV → AV → AHeap → R) (t0 t1 t2 t6 t7 t19 t29 : AV) (H : AHeap) : R :=
  pPick t19 t29 (.bool false) H fun t30 H =>
  onBool t30 (pSub t7 (.int .i64 (.ofNat 1)) H fun t37 H =>
  pSub t7 (.int .i64 (.ofNat 1)) H fun t40 H =>
  pIa 1 t0 t40 H fun t41 H =>
  ldK .none H t41 fun t42 H =>
  pIa 1 t0 t7 H fun t45 H =>
  ldK .none H t45 fun t46 H =>
  pIa 1 t0 t7 H fun t47 H =>
  stK 1 H t47 t42 fun _ H =>
  pIa 1 t0 t37 H fun t48 H =>
  stK 1 H t48 t46 fun _ H =>
  pSub t7 (.int .i64 (.ofNat 1)) H fun t32 H =>
  q1 t0 t1 t2 t6 t32 H) (S282_1 call q0 t0 t1 t2 t6 H)
noncomputable def S282_4 (call : CallFn) (q0 : AV → AV → AV → AV → AHeap → R) (q1 : AV → AV → AV → AV → AV → AHeap → R) (t0 t1 t2 t6 t7 t19 t23 t28 : AV) (H : AHeap) : R :=
  guardA t19 true (pC call 288 [t23, t28] H fun t29 H =>
  S282_3 call q0 q1 t0 t1 t2 t6 t7 t19 t29 H) (S282_3 call q0 q1 t0 t1 t2 t6 t7 t19 U H)
noncomputable def S282_5 (call : CallFn) (q0 : AV → AV → AV → AV → AHeap → R) (q1 : AV → AV → AV → AV → AV → AHeap → R) (t0 t1 t2 t6 t7 t19 t23 t27 : AV) (H : AHeap) : R :=
  guardA t19 true (ldK .none H t27 fun t28 H =>
  S282_4 call q0 q1 t0 t1 t2 t6 t7 t19 t23 t28 H) (S282_4 call q0 q1 t0 t1 t2 t6 t7 t19 t23 U H)
noncomputable def S282_6 (call : CallFn) (q0 : AV → AV → AV → AV → AHeap → R) (q1 : AV → AV → AV → AV → AV → AHeap → R) (t0 t1 t2 t6 t7 t19 t23 t24 t26 : AV) (H : AHeap) : R :=
  guardA t19 true (pIa 1 t24 t26 H fun t27 H =>
  S282_5 call q0 q1 t0 t1 t2 t6 t7 t19 t23 t27 H) (S282_5 call q0 q1 t0 t1 t2 t6 t7 t19 t23 U H)
noncomputable def S282_7 (call : CallFn) (q0 : AV → AV → AV → AV → AHeap → R) (q1 : AV → AV → AV → AV → AV → AHeap → R) (t0 t1 t2 t6 t7 t19 t23 t24 t25 : AV) (H : AHeap) : R :=
  guardA t19 true (pSub t25 (.int .i64 (.ofNat 1)) H fun t26 H =>
  S282_6 call q0 q1 t0 t1 t2 t6 t7 t19 t23 t24 t26 H) (S282_6 call q0 q1 t0 t1 t2 t6 t7 t19 t23 t24 U H)
noncomputable def S282_8 (call : CallFn) (q0 : AV → AV → AV → AV → AHeap → R) (q1 : AV → AV → AV → AV → AV → AHeap → R) (t0 t1 t2 t6 t7 t19 t23 t24 : AV) (H : AHeap) : R :=
  guardA t19 true (S282_7 call q0 q1 t0 t1 t2 t6 t7 t19 t23 t24 t7 H) (S282_7 call q0 q1 t0 t1 t2 t6 t7 t19 t23 t24 U H)
noncomputable def S282_9 (call : CallFn) (q0 : AV → AV → AV → AV → AHeap → R) (q1 : AV → AV → AV → AV → AV → AHeap → R) (t0 t1 t2 t6 t7 t19 t23 : AV) (H : AHeap) : R :=
  guardA t19 true (S282_8 call q0 q1 t0 t1 t2 t6 t7 t19 t23 t0 H) (S282_8 call q0 q1 t0 t1 t2 t6 t7 t19 t23 U H)
noncomputable def S282_10 (call : CallFn) (q0 : AV → AV → AV → AV → AHeap → R) (q1 : AV → AV → AV → AV → AV → AHeap → R) (t0 t1 t2 t6 t7 t19 t22 : AV) (H : AHeap) : R :=
  guardA t19 true (ldK .none H t22 fun t23 H =>
  S282_9 call q0 q1 t0 t1 t2 t6 t7 t19 t23 H) (S282_9 call q0 q1 t0 t1 t2 t6 t7 t19 U H)
noncomputable def S282_11 (call : CallFn) (q0 : AV → AV → AV → AV → AHeap → R) (q1 : AV → AV → AV → AV → AV → AHeap → R) (t0 t1 t2 t6 t7 t19 t20 t21 : AV) (H : AHeap) : R :=
  guardA t19 true (pIa 1 t20 t21 H fun t22 H =>
  S282_10 call q0 q1 t0 t1 t2 t6 t7 t19 t22 H) (S282_10 call q0 q1 t0 t1 t2 t6 t7 t19 U H)
noncomputable def S282_12 (call : CallFn) (q0 : AV → AV → AV → AV → AHeap → R) (q1 : AV → AV → AV → AV → AV → AHeap → R) (t0 t1 t2 t6 t7 t19 t20 : AV) (H : AHeap) : R :=
  guardA t19 true (S282_11 call q0 q1 t0 t1 t2 t6 t7 t19 t20 t7 H) (S282_11 call q0 q1 t0 t1 t2 t6 t7 t19 t20 U H)
noncomputable def S282_2 (call : CallFn) (q0 : AV → AV → AV → AV → AHeap → R) (n : Nat) : AV → AV → AV → AV → AV → AHeap → R :=
  Nat.rec (motive := fun _ => AV → AV → AV → AV → AV → AHeap → R) (fun _ _ _ _ _ _ => none) (fun _ q1 t0 t1 t2 t6 t7 H => pGtr t7 t1 H fun t18 H =>
  guardA t18 true (S282_12 call q0 q1 t0 t1 t2 t6 t7 t18 t0 H) (S282_12 call q0 q1 t0 t1 t2 t6 t7 t18 U H)) n
noncomputable def S282_0 (call : CallFn) (n : Nat) : AV → AV → AV → AV → AHeap → R :=
  Nat.rec (motive := fun _ => AV → AV → AV → AV → AHeap → R) (fun _ _ _ _ _ => none) (fun _ q0 t0 t1 t2 t6 H => pLss t6 t2 H fun t12 H =>
  onBool t12 (S282_2 call q0 1000000 t0 t1 t2 t6 t6 H) (some (.tup [], H))) n
noncomputable def S282_13 (call : CallFn) (t0 t1 t2 : AV) (H : AHeap) : R :=
  pAdd t1 (.int .i64 (.ofNat 1)) H fun t9 H =>
  S282_0 call 1000000 t0 t1 t2 t9 H
noncomputable def S282 : Ff := ⟨fun call l H => argA3 (fun t0 t1 t2 => S282_13 call t0 t1 t2 H) l⟩
/- slices.IndexFunc[[]gantline/head.Shape,gantline/head.Shape] -/
noncomputable def S291_0 (call : CallFn) (n : Nat) : AV → AV → AV → AV → AHeap → R :=
  Nat.rec (motive := fun _ => AV → AV → AV → AV → AHeap → R) (fun _ _ _ _ _ => none) (fun _ q0 t0 t1 t7 t8 H => pLss t8 t7 H fun t9 H =>
  onBool t9 (pIa 3 t0 t8 H fun t14 H =>
  ldK (.some 3) H t14 fun t15 H =>
  pV call t1 [t15] H fun t16 H =>
  onBool t16 (some (t8, H)) (pAdd t8 (.int .i64 (.ofNat 1)) H fun t18 H =>
  q0 t0 t1 t7 t18 H)) (some ((.int .i64 (.negSucc 0)), H))) n
noncomputable def S291_1 (call : CallFn) (t0 t1 : AV) (H : AHeap) : R :=
  pO (aLen .sl H t0) H fun t7 H =>
  S291_0 call 1000000 t0 t1 t7 (.int .i64 (.ofNat 0)) H
noncomputable def S291 : Ff := ⟨fun call l H => argA2 (fun t0 t1 => S291_1 call t0 t1 H) l⟩
/- (*gantline/verify.checker).slots$1 -/
noncomputable def S292_0 (_ : CallFn) (t6 t9 : AV) (H : AHeap) : R :=
  pPick t6 (.bool true) t9 H fun t10 H =>
  some (t10, H)
noncomputable def S292_1 (call : CallFn) (t0 t1 : AV) (H : AHeap) : R :=
  pEql t0 (.int .i64 (.negSucc 0)) H fun t5 H =>
  guardA t5 false (ldK .none H t1 fun t7 H =>
  pC call 293 [t7, t0] H fun t9 H =>
  S292_0 call t5 t9 H) (S292_0 call t5 U H)
noncomputable def S292 : Ff := ⟨fun call l H => argA2 (fun t0 t1 => S292_1 call t0 t1 H) l⟩
/- (*gantline/verify.checker).slot -/
noncomputable def S293_0 (_ : CallFn) (t7 t14 : AV) (H : AHeap) : R :=
  pPick t7 t14 (.bool false) H fun t15 H =>
  some (t15, H)
noncomputable def S293_1 (call : CallFn) (t0 t1 : AV) (H : AHeap) : R :=
  pGeq t1 (.int .i64 (.ofNat 0)) H fun t6 H =>
  guardA t6 true (pO (aNil t0) H fun t10 H =>
  pFa 6 t10 H fun t11 H =>
  pFa 2 t11 H fun t12 H =>
  ldK .none H t12 fun t13 H =>
  pLss t1 t13 H fun t14 H =>
  S293_0 call t6 t14 H) (S293_0 call t6 U H)
noncomputable def S293 : Ff := ⟨fun call l H => argA2 (fun t0 t1 => S293_1 call t0 t1 H) l⟩
/- slices.ContainsFunc[[]int,int] -/
noncomputable def S300_0 (call : CallFn) (t0 t1 : AV) (H : AHeap) : R :=
  pC call 180 [t0, t1] H fun t7 H =>
  pGeq t7 (.int .i64 (.ofNat 0)) H fun t8 H =>
  some (t8, H)
noncomputable def S300 : Ff := ⟨fun call l H => argA2 (fun t0 t1 => S300_0 call t0 t1 H) l⟩
/- (*gantline/verify.checker).slots$3 -/
noncomputable def S301_0 (call : CallFn) (t0 t1 : AV) (H : AHeap) : R :=
  ldK .none H t1 fun t4 H =>
  pC call 293 [t4, t0] H fun t6 H =>
  pO (aUn .not t6) H fun t7 H =>
  some (t7, H)
noncomputable def S301 : Ff := ⟨fun call l H => argA2 (fun t0 t1 => S301_0 call t0 t1 H) l⟩
/- (*gantline/verify.checker).shape -/
noncomputable def S302_0 (_ : CallFn) (t19 t30 : AV) (H : AHeap) : R :=
  pPick t19 t30 (.bool false) H fun t31 H =>
  some (t31, H)
noncomputable def S302_1 (call : CallFn) (t0 t1 t2 t9 t17 : AV) (H : AHeap) : R :=
  pPick t9 t17 (.bool false) H fun t18 H =>
  guardA t18 true (pO (aNil t0) H fun t21 H =>
  pFa 0 t21 H fun t22 H =>
  pFa 0 t22 H fun t23 H =>
  ldK .none H t23 fun t24 H =>
  pIa 3 t24 t1 H fun t26 H =>
  pFa 0 t26 H fun t27 H =>
  ldK .none H t27 fun t28 H =>
  pEql t28 t2 H fun t30 H =>
  S302_0 call t18 t30 H) (S302_0 call t18 U H)
noncomputable def S302_2 (call : CallFn) (t0 t1 t2 : AV) (H : AHeap) : R :=
  pGeq t1 (.int .i64 (.ofNat 0)) H fun t8 H =>
  guardA t8 true (pO (aNil t0) H fun t12 H =>
  pFa 0 t12 H fun t13 H =>
  pFa 0 t13 H fun t14 H =>
  ldK .none H t14 fun t15 H =>
  pO (aLen .sl H t15) H fun t16 H =>
  pLss t1 t16 H fun t17 H =>
  S302_1 call t0 t1 t2 t8 t17 H) (S302_1 call t0 t1 t2 t8 U H)
noncomputable def S302 : Ff := ⟨fun call l H => argA3 (fun t0 t1 t2 => S302_2 call t0 t1 t2 H) l⟩
/- (*gantline/verify.checker).is -/
noncomputable def S304_0 (call : CallFn) (t0 t1 t2 : AV) (H : AHeap) : R :=
  pBox t0 H fun t3 H =>
  pBox t1 H fun t4 H =>
  pC call 300 [t2, (.fn 325 [] [t3, t4])] H fun t9 H =>
  pO (aUn .not t9) H fun t10 H =>
  some (t10, H)
noncomputable def S304 : Ff := ⟨fun call l H => argA3 (fun t0 t1 t2 => S304_0 call t0 t1 t2 H) l⟩
/- (*gantline/verify.checker).calls -/
noncomputable def S306_0 (_ : CallFn) (t36 t49 : AV) (H : AHeap) : R :=
  pPick t36 (.bool true) t49 H fun t50 H =>
  some (t50, H)
noncomputable def S306_1 (call : CallFn) (t36 t40 t48 : AV) (H : AHeap) : R :=
  guardA t36 false (pPick t40 t48 (.bool false) H fun t49 H =>
  S306_0 call t36 t49 H) (S306_0 call t36 U H)
noncomputable def S306_2 (call : CallFn) (t0 t3 t4 t36 t40 : AV) (H : AHeap) : R :=
  guardA t40 true (pFa 3 t4 H fun t42 H =>
  ldK .none H t42 fun t43 H =>
  pEql t43 (.int .i64 (.ofNat 2)) H fun t44 H =>
  pFa 1 t3 H fun t45 H =>
  ldK .none H t45 fun t46 H =>
  pN (aBsl 1 1 [(.int .i64 (.ofNat 0))] [(0, 1, t46)]) H fun t47 H =>
  pC call 304 [t0, t44, t47] H fun t48 H =>
  S306_1 call t36 t40 t48 H) (S306_1 call t36 t40 U H)
noncomputable def S306_3 (_ : CallFn) (t81 t90 : AV) (H : AHeap) : R :=
  pPick t81 t90 (.bool false) H fun t91 H =>
  some (t91, H)
noncomputable def S306_4 (_ : CallFn) (t109 t120 : AV) (H : AHeap) : R :=
  pPick t109 t120 (.bool false) H fun t121 H =>
  some (t121, H)
noncomputable def S306_5 (call : CallFn) (t109 t110 t116 t119 : AV) (H : AHeap) : R :=
  guardA t109 true (pC call 304 [t110, t116, t119] H fun t120 H =>
  S306_4 call t109 t120 H) (S306_4 call t109 U H)
noncomputable def S306_6 (call : CallFn) (t109 t110 t116 t118 : AV) (H : AHeap) : R :=
  guardA t109 true (pN (aBsl 1 1 [(.int .i64 (.ofNat 0))] [(0, 1, t118)]) H fun t119 H =>
  S306_5 call t109 t110 t116 t119 H) (S306_5 call t109 t110 t116 U H)
noncomputable def S306_7 (call : CallFn) (t109 t110 t116 t117 : AV) (H : AHeap) : R :=
  guardA t109 true (ldK .none H t117 fun t118 H =>
  S306_6 call t109 t110 t116 t118 H) (S306_6 call t109 t110 t116 U H)
noncomputable def S306_8 (call : CallFn) (t3 t109 t110 t116 : AV) (H : AHeap) : R :=
  guardA t109 true (pFa 1 t3 H fun t117 H =>
  S306_7 call t109 t110 t116 t117 H) (S306_7 call t109 t110 t116 U H)
noncomputable def S306_9 (call : CallFn) (t3 t109 t110 t115 : AV) (H : AHeap) : R :=
  guardA t109 true (pEql t115 (.int .i64 (.ofNat 2)) H fun t116 H =>
  S306_8 call t3 t109 t110 t116 H) (S306_8 call t3 t109 t110 U H)
noncomputable def S306_10 (call : CallFn) (t3 t109 t110 t114 : AV) (H : AHeap) : R :=
  guardA t109 true (ldK .none H t114 fun t115 H =>
  S306_9 call t3 t109 t110 t115 H) (S306_9 call t3 t109 t110 U H)
noncomputable def S306_11 (call : CallFn) (t3 t109 t110 t113 : AV) (H : AHeap) : R :=
  guardA t109 true (pFa 3 t113 H fun t114 H =>
  S306_10 call t3 t109 t110 t114 H) (S306_10 call t3 t109 t110 U H)
noncomputable def S306_12 (call : CallFn) (t3 t109 t110 t112 : AV) (H : AHeap) : R :=
  guardA t109 true (pFa 6 t112 H fun t113 H =>
  S306_11 call t3 t109 t110 t113 H) (S306_11 call t3 t109 t110 U H)
noncomputable def S306_13 (call : CallFn) (t3 t109 t110 t111 : AV) (H : AHeap) : R :=
  guardA t109 true (pO (aNil t111) H fun t112 H =>
  S306_12 call t3 t109 t110 t112 H) (S306_12 call t3 t109 t110 U H)
noncomputable def S306_14 (call : CallFn) (t0 t3 t109 t110 : AV) (H : AHeap) : R :=
  guardA t109 true (S306_13 call t3 t109 t110 t0 H) (S306_13 call t3 t109 t110 U H)
noncomputable def S306_15 (call : CallFn) (t0 : AV) (H : AHeap) : R :=
  pO (aNil t0) H fun t11 H =>
  pFa 17 t11 H fun t12 H =>
  ldK (.some 5) H t12 fun t13 H =>
  pNew [(.int .i64 (.ofNat 0)), (.int .i64 (.ofNat 0)), (.int .i64 (.ofNat 0)), (.int .i64 (.ofNat 0)), (.int .i64 (.ofNat 0))] H fun t3 H =>
  stK 5 H t3 t13 fun _ H =>
  pFa 0 t3 H fun t14 H =>
  ldK .none H t14 fun t15 H =>
  pEql t15 (.int .i64 (.ofNat 20)) H fun t17 H =>
  onBool t17 (pFa 2 t3 H fun t20 H =>
  ldK .none H t20 fun t21 H =>
  pC call 296 [t0, t21] H fun t22 H =>
  pExt t22 0 H fun t23 H =>
  pExt t22 1 H fun _ H =>
  pNew [(.int .i64 (.ofNat 0)), (.int .i64 (.ofNat 0)), (.int .i64 (.ofNat 0)), (.int .i64 (.ofNat 0)), .nilsl, .nilsl, .nilsl] H fun t4 H =>
  stK 7 H t4 t23 fun _ H =>
  ldK (.some 7) H t4 fun t26 H =>
  pFa 3 t3 H fun t27 H =>
  ldK .none H t27 fun t28 H =>
  pFa 0 t4 H fun t29 H =>
  ldK .none H t29 fun t30 H =>
  pC call 326 [t0, t26, (.int .i64 (.ofNat 0)), t28, t30] H fun t31 H =>
  pO (aUn .not t31) H fun t32 H =>
  onBool t32 (some ((.bool false), H)) (pFa 1 t3 H fun t33 H =>
  ldK .none H t33 fun t34 H =>
  pEql t34 (.int .i64 (.negSucc 0)) H fun t35 H =>
  guardA t35 false (pFa 3 t4 H fun t37 H =>
  ldK .none H t37 fun t38 H =>
  pGtr t38 (.int .i64 (.ofNat 0)) H fun t39 H =>
  S306_2 call t0 t3 t4 t35 t39 H) (S306_2 call t0 t3 t4 t35 U H))) (pEql t15 (.int .i64 (.ofNat 23)) H fun t52 H =>
  onBool t52 (pFa 1 t3 H fun t55 H =>
  ldK .none H t55 fun t56 H =>
  pC call 296 [t0, t56] H fun t57 H =>
  pExt t57 0 H fun t58 H =>
  pExt t57 1 H fun _ H =>
  pNew [(.int .i64 (.ofNat 0)), (.int .i64 (.ofNat 0)), (.int .i64 (.ofNat 0)), (.int .i64 (.ofNat 0)), .nilsl, .nilsl, .nilsl] H fun t6 H =>
  stK 7 H t6 t58 fun _ H =>
  ldK (.some 7) H t6 fun t61 H =>
  pFa 2 t3 H fun t62 H =>
  ldK .none H t62 fun t63 H =>
  pFa 0 t6 H fun t64 H =>
  ldK .none H t64 fun t65 H =>
  pC call 326 [t0, t61, (.int .i64 (.ofNat 0)), t63, t65] H fun t66 H =>
  some (t66, H)) (pEql t15 (.int .i64 (.ofNat 36)) H fun t68 H =>
  onBool t68 (pFa 2 t3 H fun t71 H =>
  ldK .none H t71 fun t72 H =>
  pC call 296 [t0, t72] H fun t73 H =>
  pExt t73 0 H fun t74 H =>
  pExt t73 1 H fun _ H =>
  pNew [(.int .i64 (.ofNat 0)), (.int .i64 (.ofNat 0)), (.int .i64 (.ofNat 0)), (.int .i64 (.ofNat 0)), .nilsl, .nilsl, .nilsl] H fun t8 H =>
  stK 7 H t8 t74 fun _ H =>
  pFa 1 t3 H fun t77 H =>
  ldK .none H t77 fun t78 H =>
  pN (aBsl 1 1 [(.int .i64 (.ofNat 0))] [(0, 1, t78)]) H fun t79 H =>
  pC call 304 [t0, (.bool true), t79] H fun t80 H =>
  guardA t80 true (ldK (.some 7) H t8 fun t83 H =>
  pFa 0 t8 H fun t84 H =>
  ldK .none H t84 fun t85 H =>
  pFa 3 t3 H fun t86 H =>
  ldK .none H t86 fun t87 H =>
  pFa 1 t8 H fun t88 H =>
  ldK .none H t88 fun t89 H =>
  pC call 326 [t0, t83, t85, t87, t89] H fun t90 H =>
  S306_3 call t80 t90 H) (S306_3 call t80 U H)) (pEql t15 (.int .i64 (.ofNat 22)) H fun t93 H =>
  onBool t93 (pFa 1 t3 H fun t94 H =>
  ldK .none H t94 fun t95 H =>
  pEql t95 (.int .i64 (.negSucc 0)) H fun t96 H =>
  onBool t96 (pO (aNil t0) H fun t98 H =>
  pFa 6 t98 H fun t99 H =>
  pFa 3 t99 H fun t100 H =>
  ldK .none H t100 fun t101 H =>
  pEql t101 (.int .i64 (.ofNat 0)) H fun t102 H =>
  some (t102, H)) (pO (aNil t0) H fun t104 H =>
  pFa 6 t104 H fun t105 H =>
  pFa 3 t105 H fun t106 H =>
  ldK .none H t106 fun t107 H =>
  pGtr t107 (.int .i64 (.ofNat 0)) H fun t108 H =>
  guardA t108 true (S306_14 call t0 t3 t108 t0 H) (S306_14 call t0 t3 t108 U H))) (some ((.bool true), H)))))
noncomputable def S306 : Ff := ⟨fun call l H => argA1 (fun t0 => S306_15 call t0 H) l⟩
/- (*gantline/verify.checker).targets -/
noncomputable def S307_0 (_ : CallFn) (n : Nat) : AV → AV → AV → AV → AHeap → R :=
  Nat.rec (motive := fun _ => AV → AV → AV → AV → AHeap → R) (fun _ _ _ _ _ => none) (fun _ q0 t3 t36 t37 t38 H => pLss t38 t37 H fun t39 H =>
  onBool t39 (pIa 4 t36 t38 H fun t40 H =>
  ldK (.some 4) H t40 fun t41 H =>
  pNew [(.int .i64 (.ofNat 0)), (.int .i64 (.ofNat 0)), (.int .i64 (.ofNat 0)), (.int .i64 (.ofNat 0))] H fun t7 H =>
  stK 4 H t7 t41 fun _ H =>
  pFa 3 t7 H fun t43 H =>
  ldK .none H t43 fun t44 H =>
  pN (aBsl 1 1 [(.int .i64 (.ofNat 0))] [(0, 1, t44)]) H fun t45 H =>
  pW (aApp 1 8 H t3 t45) fun t46 H =>
  pAdd t38 (.int .i64 (.ofNat 1)) H fun t47 H =>
  q0 t46 t36 t37 t47 H) (some (t3, H))) n
noncomputable def S307_1 (call : CallFn) (t0 : AV) (H : AHeap) : R :=
  pO (aNil t0) H fun t9 H =>
  pFa 17 t9 H fun t10 H =>
  pFa 0 t10 H fun t11 H =>
  ldK .none H t11 fun t12 H =>
  pEql t12 (.int .i64 (.ofNat 18)) H fun t14 H =>
  onBool t14 (pO (aNil t0) H fun t16 H =>
  pFa 17 t16 H fun t17 H =>
  pFa 1 t17 H fun t18 H =>
  ldK .none H t18 fun t19 H =>
  pN (aBsl 1 1 [(.int .i64 (.ofNat 0))] [(0, 1, t19)]) H fun t20 H =>
  some (t20, H)) (pEql t12 (.int .i64 (.ofNat 19)) H fun t22 H =>
  onBool t22 (pO (aNil t0) H fun t24 H =>
  pFa 17 t24 H fun t25 H =>
  pFa 2 t25 H fun t26 H =>
  ldK .none H t26 fun t27 H =>
  pN (aBsl 1 1 [(.int .i64 (.ofNat 0))] [(0, 1, t27)]) H fun t28 H =>
  some (t28, H)) (pEql t12 (.int .i64 (.ofNat 41)) H fun t30 H =>
  onBool t30 (pC call 297 [t0] H fun t33 H =>
  pExt t33 0 H fun t34 H =>
  pExt t33 1 H fun _ H =>
  pO (aLen .sl H t34) H fun t37 H =>
  S307_0 call 1000000 .nilsl t34 t37 (.int .i64 (.ofNat 0)) H) (some (.nilsl, H))))
noncomputable def S307 : Ff := ⟨fun call l H => argA1 (fun t0 => S307_1 call t0 H) l⟩
/- gantline/geom.Class -/
noncomputable def S310_1 (_ : CallFn) (q0 : AV → AV → AHeap → R) (t0 t3 t4 t9 t13 : AV) (H : AHeap) : R :=
  pPick t9 t13 (.bool false) H fun t14 H =>
  onBool t14 (some (t3, H)) (pAdd t4 (.int .i64 (.ofNat 1)) H fun t16 H =>
  q0 t0 t16 H)
noncomputable def S310_0 (call : CallFn) (n : Nat) : AV → AV → AHeap → R :=
  Nat.rec (motive := fun _ => AV → AV → AHeap → R) (fun _ _ _ => none) (fun _ q0 t0 t4 H => pLss t4 (.int .i64 (.ofNat 6)) H fun t5 H =>
  onBool t5 (pGeq t0 (.int .i64 (.ofNat 1)) H fun t8 H =>
  guardA t8 true (pC call 123 [t4] H fun t12 H =>
  pLeq t0 t12 H fun t13 H =>
  S310_1 call q0 t0 t4 t4 t8 t13 H) (S310_1 call q0 t0 t4 t4 t8 U H)) (some ((.int .i64 (.negSucc 0)), H))) n
noncomputable def S310 : Ff := ⟨fun call l H => argA1 (fun t0 => S310_0 call 1000000 t0 (.int .i64 (.ofNat 0)) H) l⟩
/- (*gantline/arena.Arena).Take -/
noncomputable def S312_0 (call : CallFn) (t0 t1 : AV) (H : AHeap) : R :=
  pC call 33 [t0, t1] H fun t12 H =>
  pEql t12 (.int .i64 (.negSucc 0)) H fun t14 H =>
  onBool t14 (some (.tup [(.int .i64 (.ofNat 0)), (.int .i64 (.ofNat 4))], H)) (pO (aNil t0) H fun t16 H =>
  pFa 1 t16 H fun t17 H =>
  ldK .none H t17 fun t18 H =>
  pIa 3 t18 t1 H fun t20 H =>
  pO (aNil t20) H fun t22 H =>
  pFa 1 t22 H fun t23 H =>
  ldK .none H t23 fun t24 H =>
  pC call 336 [t24] H fun t25 H =>
  pC call 335 [t12] H fun t28 H =>
  pGeq t25 t28 H fun t29 H =>
  onBool t29 (some (.tup [(.int .i64 (.ofNat 0)), (.int .i64 (.ofNat 5))], H)) (pO (aNil t20) H fun t31 H =>
  pFa 1 t31 H fun t32 H =>
  ldK .none H t32 fun t33 H =>
  pConv .u64 t25 H fun t35 H =>
  pO (aBin .shl (.int .u64 (.ofNat 1)) t35) H fun t36 H =>
  pOr t33 t36 H fun t37 H =>
  pO (aNil t20) H fun t38 H =>
  pFa 1 t38 H fun t39 H =>
  stK 1 H t39 t37 fun _ H =>
  pO (aNil t20) H fun t41 H =>
  pFa 2 t41 H fun t42 H =>
  ldK .none H t42 fun t43 H =>
  pConv .u64 t25 H fun t45 H =>
  pO (aBin .shl (.int .u64 (.ofNat 1)) t45) H fun t46 H =>
  pAndN t43 t46 H fun t47 H =>
  pO (aNil t20) H fun t48 H =>
  pFa 2 t48 H fun t49 H =>
  stK 1 H t49 t47 fun _ H =>
  pC call 337 [t1, t25, t12] H fun t53 H =>
  pO (aNil t0) H fun t55 H =>
  pFa 0 t55 H fun t56 H =>
  ldK .none H t56 fun t57 H =>
  pC call 123 [t12] H fun t61 H =>
  andR (andB (ckV (aLoad .none H t56) t57) true) (
  pAdd t53 t61 H fun t62 H =>
  pO (aSlice 1 H t57 (.some t53) (.some t62) .none) H fun t63 H =>
  pW (unitW (aClearS [(.int .i64 (.ofNat 0))] H t63)) fun _ H =>
  some (.tup [t53, (.int .i64 (.ofNat 0))], H))))
noncomputable def S312 : Ff := ⟨fun call l H => argA2 (fun t0 t1 => S312_0 call t0 t1 H) l⟩
/- (*gantline/alloc.Alloc).begin -/
noncomputable def S313_0 (call : CallFn) (t0 t1 t2 : AV) (H : AHeap) : R :=
  pO (aNil t0) H fun t9 H =>
  pFa 1 t9 H fun t10 H =>
  ldK .none H t10 fun t11 H =>
  pIa 1 t11 t1 H fun t13 H =>
  stK 1 H t13 (.bool false) fun _ H =>
  pO (aNil t0) H fun t15 H =>
  pFa 0 t15 H fun t16 H =>
  ldK .none H t16 fun t17 H =>
  pC call 338 [t17, t1, t2] H fun _ H =>
  pO (aNil t0) H fun t22 H =>
  pFa 0 t22 H fun t23 H =>
  ldK .none H t23 fun t24 H =>
  pC call 312 [t24, t1] H fun t26 H =>
  pExt t26 0 H fun t27 H =>
  pExt t26 1 H fun t28 H =>
  some (.tup [t27, t28], H)
noncomputable def S313 : Ff := ⟨fun call l H => argA3 (fun t0 t1 t2 => S313_0 call t0 t1 t2 H) l⟩
/- (*gantline/verify.checker).is$1 -/
noncomputable def S325_0 (_ : CallFn) (t0 t1 t2 : AV) (H : AHeap) : R :=
  ldK .none H t1 fun t5 H =>
  pO (aNil t5) H fun t6 H =>
  pFa 6 t6 H fun t7 H =>
  pFa 4 t7 H fun t8 H =>
  ldK .none H t8 fun t9 H =>
  pIa 1 t9 t0 H fun t11 H =>
  ldK .none H t11 fun t12 H =>
  ldK .none H t2 fun t13 H =>
  pO (aEq true .bool t12 t13) H fun t14 H =>
  some (t14, H)
noncomputable def S325 : Ff := ⟨fun call l H => argA3 (fun t0 t1 t2 => S325_0 call t0 t1 t2 H) l⟩
/- gantline/geom.Places -/
noncomputable def S335_0 (call : CallFn) (t0 : AV) (H : AHeap) : R :=
  pC call 123 [t0] H fun t4 H =>
  pEql t4 (.int .i64 (.ofNat 0)) H fun t5 H =>
  onBool t5 (some ((.int .i64 (.ofNat 0)), H)) (pC call 123 [t0] H fun t7 H =>
  pO (aBin .quo (.int .i64 (.ofNat 64)) t7) H fun t8 H =>
  some (t8, H))
noncomputable def S335 : Ff := ⟨fun call l H => argA1 (fun t0 => S335_0 call t0 H) l⟩
/- gantline/bits.First -/
noncomputable def S336_0 (call : CallFn) (t0 : AV) (H : AHeap) : R :=
  pO (aUn .xor t0) H fun t4 H =>
  pC call 347 [t4] H fun t5 H =>
  some (t5, H)
noncomputable def S336 : Ff := ⟨fun call l H => argA1 (fun t0 => S336_0 call t0 H) l⟩
/- gantline/geom.Addr -/
noncomputable def S337_0 (call : CallFn) (t0 t1 t2 t17 t21 : AV) (H : AHeap) : R :=
  pPick t17 (.bool true) t21 H fun t22 H =>
  onBool t22 (some ((.int .i64 (.ofNat 0)), H)) (pMul t0 (.int .i64 (.ofNat 64)) H fun t24 H =>
  pC call 123 [t2] H fun t27 H =>
  pMul t1 t27 H fun t28 H =>
  pAdd t24 t28 H fun t29 H =>
  some (t29, H))
noncomputable def S337_1 (call : CallFn) (t0 t1 t2 t13 t15 : AV) (H : AHeap) : R :=
  pPick t13 (.bool true) t15 H fun t16 H =>
  guardA t16 false (pC call 335 [t2] H fun t20 H =>
  pGeq t1 t20 H fun t21 H =>
  S337_0 call t0 t1 t2 t16 t21 H) (S337_0 call t0 t1 t2 t16 U H)
noncomputable def S337_2 (call : CallFn) (t0 t1 t2 t9 t11 : AV) (H : AHeap) : R :=
  pPick t9 (.bool true) t11 H fun t12 H =>
  guardA t12 false (pLss t1 (.int .i64 (.ofNat 0)) H fun t15 H =>
  S337_1 call t0 t1 t2 t12 t15 H) (S337_1 call t0 t1 t2 t12 U H)
noncomputable def S337_3 (call : CallFn) (t0 t1 t2 : AV) (H : AHeap) : R :=
  pLss t0 (.int .i64 (.ofNat 1)) H fun t8 H =>
  guardA t8 false (pGeq t0 (.int .i64 (.ofNat 512)) H fun t11 H =>
  S337_2 call t0 t1 t2 t8 t11 H) (S337_2 call t0 t1 t2 t8 U H)
noncomputable def S337 : Ff := ⟨fun call l H => argA3 (fun t0 t1 t2 => S337_3 call t0 t1 t2 H) l⟩
/- (*gantline/arena.Arena).Set -/
noncomputable def S338_0 (_ : CallFn) (t0 t1 t2 t12 t15 : AV) (H : AHeap) : R :=
  pPick t12 (.bool true) t15 H fun t16 H =>
  onBool t16 (some ((.int .i64 (.ofNat 1)), H)) (pO (aNil t0) H fun t19 H =>
  pFa 1 t19 H fun t20 H =>
  ldK .none H t20 fun t21 H =>
  pIa 3 t21 t1 H fun t23 H =>
  pFa 0 t23 H fun t24 H =>
  ldK .none H t24 fun t25 H =>
  pNeq t25 (.int .i64 (.negSucc 0)) H fun t26 H =>
  onBool t26 (some ((.int .i64 (.ofNat 5)), H)) (pO (aNil t0) H fun t28 H =>
  pFa 1 t28 H fun t29 H =>
  ldK .none H t29 fun t30 H =>
  pO (someAgg (aFill [(.int .i64 (.ofNat 0)), (.int .u64 (.ofNat 0)), (.int .u64 (.ofNat 0))] [(0, 1, t2)])) H fun t33 H =>
  pIa 3 t30 t1 H fun t34 H =>
  stK 3 H t34 t33 fun _ H =>
  some ((.int .i64 (.ofNat 0)), H)))
noncomputable def S338_1 (call : CallFn) (t0 t1 t2 : AV) (H : AHeap) : R :=
  pC call 64 [t0, t1] H fun t10 H =>
  pO (aUn .not t10) H fun t11 H =>
  guardA t11 false (pC call 123 [t2] H fun t14 H =>
  pEql t14 (.int .i64 (.ofNat 0)) H fun t15 H =>
  S338_0 call t0 t1 t2 t11 t15 H) (S338_0 call t0 t1 t2 t11 U H)
noncomputable def S338 : Ff := ⟨fun call l H => argA3 (fun t0 t1 t2 => S338_1 call t0 t1 t2 H) l⟩
/- math/bits.TrailingZeros64 -/
noncomputable def S347_0 (_ : CallFn) (t0 : AV) (H : AHeap) : R :=
  pEql t0 (.int .u64 (.ofNat 0)) H fun t4 H =>
  onBool t4 (some ((.int .i64 (.ofNat 64)), H)) (pO (aUn .neg t0) H fun t7 H =>
  pAnd t0 t7 H fun t8 H =>
  pMul t8 (.int .u64 (.ofNat 285870213051353865)) H fun t9 H =>
  pO (aBin .shr t9 (.int .u64 (.ofNat 58))) H fun t10 H =>
  pIaA 1 64 (.ptr 0 0) t10 H fun t11 H =>
  ldK .none H t11 fun t12 H =>
  pConv .i64 t12 H fun t13 H =>
  some (t13, H))
noncomputable def S347 : Ff := ⟨fun call l H => argA1 (fun t0 => S347_0 call t0 H) l⟩
end Go.Proofs.YtggjnaeefpafhaaGreatDoor
