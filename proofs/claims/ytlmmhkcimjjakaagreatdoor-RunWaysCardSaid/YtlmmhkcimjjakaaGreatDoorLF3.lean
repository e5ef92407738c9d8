/- Plain functions, printed: part 3. -/
import Derived.Test.YtlmmhkcimjjakaaGreatDoorAdE
import Derived.Test.YtlmmhkcimjjakaaGreatDoorProg
import Derived.KernelRfl
namespace Go.Proofs.YtlmmhkcimjjakaaGreatDoor
open Go.Ab
set_option maxRecDepth 100000
/- (*gantline/arena.Arena).Read -/
noncomputable def S219_0 (call : CallFn) (t0 t1 t2 : AV) (H : AHeap) : R :=
  pC call 287 [t0, t1, t2] H fun t12 H =>
  pO (aEq false .ptr t12 .nilp) H fun t14 H =>
  onBool t14 (some (.tup [(.int .i64 (.ofNat 0)), (.int .i64 (.ofNat 1))], H)) (pO (aNil t12) H fun t16 H =>
  ldK .none H t16 fun t17 H =>
  some (.tup [t17, (.int .i64 (.ofNat 0))], H))
noncomputable def S219 : Ff := ⟨fun call l H => argA3 (fun t0 t1 t2 => S219_0 call t0 t1 t2 H) l⟩
/- gantline/head.Unpack -/
noncomputable def S220_0 (_ : CallFn) (t2 t5 t21 t24 : AV) (H : AHeap) : R :=
  pPick t21 (.bool true) t24 H fun t25 H =>
  onBool t25 (pO (someAgg (aFill [(.int .i64 (.ofNat 0)), (.int .i64 (.ofNat 0)), (.int .i64 (.ofNat 0))] [])) H fun t26 H =>
  stK 3 H t2 t26 fun _ H =>
  ob (allM (fun o => o) [aLoad (.some 3) H t2, some (.int .i64 (.ofNat 3))]) fun vs => some (resV vs, H)) (ldK (.some 3) H t5 fun t27 H =>
  stK 3 H t2 t27 fun _ H =>
  ob (allM (fun o => o) [aLoad (.some 3) H t2, some (.int .i64 (.ofNat 0))]) fun vs => some (resV vs, H))
noncomputable def S220_1 (call : CallFn) (t0 : AV) (H : AHeap) : R :=
  pNew [(.int .i64 (.ofNat 0)), (.int .i64 (.ofNat 0)), (.int .i64 (.ofNat 0))] H fun t2 H =>
  pConv .u64 t0 H fun t7 H =>
  pC call 288 [t7, (.int .i64 (.ofNat 0)), (.int .i64 (.ofNat 7))] H fun t9 H =>
  pConv .i64 t9 H fun t10 H =>
  pC call 288 [t7, (.int .i64 (.ofNat 7)), (.int .i64 (.ofNat 3))] H fun t12 H =>
  pConv .i64 t12 H fun t13 H =>
  pC call 288 [t7, (.int .i64 (.ofNat 10)), (.int .i64 (.ofNat 16))] H fun t15 H =>
  pConv .i64 t15 H fun t16 H =>
  pO (someAgg (aFill [(.int .i64 (.ofNat 0)), (.int .i64 (.ofNat 0)), (.int .i64 (.ofNat 0))] [(0, 1, t10), (1, 1, t13), (2, 1, t16)])) H fun t17 H =>
  pNew [(.int .i64 (.ofNat 0)), (.int .i64 (.ofNat 0)), (.int .i64 (.ofNat 0))] H fun t5 H =>
  stK 3 H t5 t17 fun _ H =>
  pO (aBin .shr t7 (.int .u64 (.ofNat 26))) H fun t19 H =>
  pNeq t19 (.int .u64 (.ofNat 0)) H fun t20 H =>
  guardA t20 false (ldK (.some 3) H t5 fun t22 H =>
  pC call 289 [t22] H fun t23 H =>
  pO (aUn .not t23) H fun t24 H =>
  S220_0 call t2 t5 t20 t24 H) (S220_0 call t2 t5 t20 U H)
noncomputable def S220 : Ff := ⟨fun call l H => argA1 (fun t0 => S220_1 call t0 H) l⟩
/- gantline/geom.Span -/
noncomputable def S221_0 (_ : CallFn) (t0 t5 t7 : AV) (H : AHeap) : R :=
  pPick t5 (.bool true) t7 H fun t8 H =>
  onBool t8 (some ((.int .i64 (.negSucc 0)), H)) (pO (aBin .quo t0 (.int .i64 (.ofNat 64))) H fun t10 H =>
  some (t10, H))
noncomputable def S221_1 (call : CallFn) (t0 : AV) (H : AHeap) : R :=
  pLss t0 (.int .i64 (.ofNat 0)) H fun t4 H =>
  guardA t4 false (pGeq t0 (.int .i64 (.ofNat 32768)) H fun t7 H =>
  S221_0 call t0 t4 t7 H) (S221_0 call t0 t4 U H)
noncomputable def S221 : Ff := ⟨fun call l H => argA1 (fun t0 => S221_1 call t0 H) l⟩
/- (*gantline/head.Table).Shape -/
noncomputable def S222_0 (_ : CallFn) (t0 t1 t4 t8 t15 : AV) (H : AHeap) : R :=
  pPick t8 (.bool true) t15 H fun t16 H =>
  onBool t16 (pO (someAgg (aFill [(.int .i64 (.ofNat 0)), (.int .i64 (.ofNat 0)), (.int .u64 (.ofNat 0))] [])) H fun t17 H =>
  stK 3 H t4 t17 fun _ H =>
  ob (allM (fun o => o) [aLoad (.some 3) H t4, some (.int .i64 (.ofNat 4))]) fun vs => some (resV vs, H)) (pO (aNil t0) H fun t19 H =>
  pFa 0 t19 H fun t20 H =>
  ldK .none H t20 fun t21 H =>
  pIa 3 t21 t1 H fun t23 H =>
  ldK (.some 3) H t23 fun t24 H =>
  stK 3 H t4 t24 fun _ H =>
  ob (allM (fun o => o) [aLoad (.some 3) H t4, some (.int .i64 (.ofNat 0))]) fun vs => some (resV vs, H))
noncomputable def S222_1 (call : CallFn) (t0 t1 : AV) (H : AHeap) : R :=
  pNew [(.int .i64 (.ofNat 0)), (.int .i64 (.ofNat 0)), (.int .u64 (.ofNat 0))] H fun t4 H =>
  pLss t1 (.int .i64 (.ofNat 0)) H fun t7 H =>
  guardA t7 false (pO (aNil t0) H fun t11 H =>
  pFa 0 t11 H fun t12 H =>
  ldK .none H t12 fun t13 H =>
  pO (aLen .sl H t13) H fun t14 H =>
  pGeq t1 t14 H fun t15 H =>
  S222_0 call t0 t1 t4 t7 t15 H) (S222_0 call t0 t1 t4 t7 U H)
noncomputable def S222 : Ff := ⟨fun call l H => argA2 (fun t0 t1 => S222_1 call t0 t1 H) l⟩
/- (gantline/head.Shape).Holds -/
noncomputable def S223_0 (_ : CallFn) (t43 t45 : AV) (H : AHeap) : R :=
  pPick t43 t45 (.bool false) H fun t46 H =>
  some (t46, H)
noncomputable def S223_1 (call : CallFn) (t1 t3 t20 t21 : AV) (H : AHeap) : R :=
  onBool t21 (pFa 2 t3 H fun t24 H =>
  ldK .none H t24 fun t25 H =>
  pConv .u64 t1 H fun t27 H =>
  pO (aBin .shr t25 t27) H fun t28 H =>
  pAnd t28 (.int .u64 (.ofNat 1)) H fun t29 H =>
  pEql t29 (.int .u64 (.ofNat 1)) H fun t30 H =>
  some (t30, H)) (pEql t20 (.int .i64 (.ofNat 1)) H fun t32 H =>
  onBool t32 (pFa 2 t3 H fun t33 H =>
  ldK .none H t33 fun t34 H =>
  pAnd t34 (.int .u64 (.ofNat 1)) H fun t35 H =>
  pEql t35 (.int .u64 (.ofNat 1)) H fun t36 H =>
  some (t36, H)) (pEql t20 (.int .i64 (.ofNat 3)) H fun t38 H =>
  onBool t38 (pFa 2 t3 H fun t39 H =>
  ldK .none H t39 fun t40 H =>
  pAnd t40 (.int .u64 (.ofNat 1)) H fun t41 H =>
  pEql t41 (.int .u64 (.ofNat 1)) H fun t42 H =>
  guardA t42 true (pGeq t1 (.int .i64 (.ofNat 4)) H fun t45 H =>
  S223_0 call t42 t45 H) (S223_0 call t42 U H)) (some ((.bool false), H))))
noncomputable def S223_2 (call : CallFn) (t1 t3 t13 t17 : AV) (H : AHeap) : R :=
  pPick t13 (.bool true) t17 H fun t18 H =>
  onBool t18 (some ((.bool false), H)) (pFa 0 t3 H fun t19 H =>
  ldK .none H t19 fun t20 H =>
  pEql t20 (.int .i64 (.ofNat 0)) H fun t22 H =>
  onBool t22 (S223_1 call t1 t3 t20 t22 H) (pEql t20 (.int .i64 (.ofNat 2)) H fun t23 H =>
  S223_1 call t1 t3 t20 t23 H))
noncomputable def S223_3 (call : CallFn) (t1 t2 t3 t9 t11 : AV) (H : AHeap) : R :=
  pPick t9 (.bool true) t11 H fun t12 H =>
  guardA t12 false (pSub t2 (.int .i64 (.ofNat 2)) H fun t16 H =>
  pGtr t1 t16 H fun t17 H =>
  S223_2 call t1 t3 t12 t17 H) (S223_2 call t1 t3 t12 U H)
noncomputable def S223_4 (call : CallFn) (t0 t1 t2 : AV) (H : AHeap) : R :=
  pBox t0 H fun t3 H =>
  pLss t1 (.int .i64 (.ofNat 0)) H fun t8 H =>
  guardA t8 false (pLss t2 (.int .i64 (.ofNat 2)) H fun t11 H =>
  S223_3 call t1 t2 t3 t8 t11 H) (S223_3 call t1 t2 t3 t8 U H)
noncomputable def S223 : Ff := ⟨fun call l H => argA3 (fun t0 t1 t2 => S223_4 call t0 t1 t2 H) l⟩
/- (*gantline/arena.Arena).Mark -/
noncomputable def S224_0 (_ : CallFn) (t5 t6 t15 t22 : AV) (H : AHeap) : R :=
  pPick t15 (.bool true) t22 H fun t23 H =>
  onBool t23 (some ((.bool false), H)) (pO (aNil t5) H fun t25 H =>
  pFa 2 t25 H fun t26 H =>
  ldK .none H t26 fun t27 H =>
  pOr t27 t6 H fun t29 H =>
  pO (aNil t5) H fun t30 H =>
  pFa 2 t30 H fun t31 H =>
  stK 1 H t31 t29 fun _ H =>
  some ((.bool true), H))
noncomputable def S224_1 (call : CallFn) (t0 t1 : AV) (H : AHeap) : R :=
  pC call 290 [t0, t1] H fun t10 H =>
  pExt t10 0 H fun t11 H =>
  pExt t10 1 H fun t12 H =>
  pO (aEq false .ptr t11 .nilp) H fun t14 H =>
  guardA t14 false (pO (aNil t11) H fun t17 H =>
  pFa 2 t17 H fun t18 H =>
  ldK .none H t18 fun t19 H =>
  pAnd t19 t12 H fun t21 H =>
  pNeq t21 (.int .u64 (.ofNat 0)) H fun t22 H =>
  S224_0 call t11 t12 t14 t22 H) (S224_0 call t11 t12 t14 U H)
noncomputable def S224 : Ff := ⟨fun call l H => argA2 (fun t0 t1 => S224_1 call t0 t1 H) l⟩
/- (*gantline/grey.Queue).Add -/
noncomputable def S225_0 (_ : CallFn) (t0 t1 : AV) (H : AHeap) : R :=
  pO (aNil t0) H fun t6 H =>
  pFa 0 t6 H fun t7 H =>
  ldK .none H t7 fun t8 H =>
  pN (aBsl 1 1 [(.int .i64 (.ofNat 0))] [(0, 1, t1)]) H fun t10 H =>
  pW (aApp 1 8 H t8 t10) fun t11 H =>
  pO (aNil t0) H fun t12 H =>
  pFa 0 t12 H fun t13 H =>
  stK 1 H t13 t11 fun _ H =>
  some (.tup [], H)
noncomputable def S225 : Ff := ⟨fun call l H => argA2 (fun t0 t1 => S225_0 call t0 t1 H) l⟩
/- (*gantline/arena.Arena).has -/
noncomputable def S226_0 (_ : CallFn) (t7 t14 : AV) (H : AHeap) : R :=
  pPick t7 t14 (.bool false) H fun t15 H =>
  some (t15, H)
noncomputable def S226_1 (call : CallFn) (t0 t1 : AV) (H : AHeap) : R :=
  pGeq t1 (.int .i64 (.ofNat 1)) H fun t6 H =>
  guardA t6 true (pO (aNil t0) H fun t10 H =>
  pFa 1 t10 H fun t11 H =>
  ldK .none H t11 fun t12 H =>
  pO (aLen .sl H t12) H fun t13 H =>
  pLss t1 t13 H fun t14 H =>
  S226_0 call t6 t14 H) (S226_0 call t6 U H)
noncomputable def S226 : Ff := ⟨fun call l H => argA2 (fun t0 t1 => S226_1 call t0 t1 H) l⟩
/- (*gantline/arena.Arena).Sweep -/
noncomputable def S227_0 (call : CallFn) (t0 t1 : AV) (H : AHeap) : R :=
  pC call 156 [t0, t1] H fun t9 H =>
  pEql t9 (.int .i64 (.negSucc 0)) H fun t10 H =>
  onBool t10 (some ((.int .i64 (.ofNat 0)), H)) (pO (aNil t0) H fun t12 H =>
  pFa 1 t12 H fun t13 H =>
  ldK .none H t13 fun t14 H =>
  pIa 3 t14 t1 H fun t16 H =>
  pO (aNil t16) H fun t18 H =>
  pFa 1 t18 H fun t19 H =>
  ldK .none H t19 fun t20 H =>
  pO (aNil t16) H fun t22 H =>
  pFa 2 t22 H fun t23 H =>
  ldK .none H t23 fun t24 H =>
  pAndN t20 t24 H fun t25 H =>
  pC call 158 [t25] H fun t26 H =>
  pO (aNil t16) H fun t28 H =>
  pFa 1 t28 H fun t29 H =>
  ldK .none H t29 fun t30 H =>
  pO (aNil t16) H fun t32 H =>
  pFa 2 t32 H fun t33 H =>
  ldK .none H t33 fun t34 H =>
  pAnd t30 t34 H fun t35 H =>
  pO (aNil t16) H fun t36 H =>
  pFa 1 t36 H fun t37 H =>
  stK 1 H t37 t35 fun _ H =>
  pO (aNil t16) H fun t39 H =>
  pFa 1 t39 H fun t40 H =>
  ldK .none H t40 fun t41 H =>
  pEql t41 (.int .u64 (.ofNat 0)) H fun t42 H =>
  onBool t42 (pO (someAgg (aFill [(.int .i64 (.ofNat 0)), (.int .u64 (.ofNat 0)), (.int .u64 (.ofNat 0))] [(0, 1, (.int .i64 (.negSucc 0)))])) H fun t44 H =>
  pO (aNil t16) H fun t45 H =>
  stK 3 H t45 t44 fun _ H =>
  some (t26, H)) (some (t26, H)))
noncomputable def S227 : Ff := ⟨fun call l H => argA2 (fun t0 t1 => S227_0 call t0 t1 H) l⟩
/- math/bits.OnesCount64 -/
noncomputable def S228_0 (_ : CallFn) (t0 : AV) (H : AHeap) : R :=
  pO (aBin .shr t0 (.int .u64 (.ofNat 1))) H fun t4 H =>
  pAnd t4 (.int .u64 (.ofNat 6148914691236517205)) H fun t5 H =>
  pAnd t0 (.int .u64 (.ofNat 6148914691236517205)) H fun t7 H =>
  pAdd t5 t7 H fun t8 H =>
  pO (aBin .shr t8 (.int .u64 (.ofNat 2))) H fun t10 H =>
  pAnd t10 (.int .u64 (.ofNat 3689348814741910323)) H fun t11 H =>
  pAnd t8 (.int .u64 (.ofNat 3689348814741910323)) H fun t13 H =>
  pAdd t11 t13 H fun t14 H =>
  pO (aBin .shr t14 (.int .u64 (.ofNat 4))) H fun t16 H =>
  pAdd t16 t14 H fun t18 H =>
  pAnd t18 (.int .u64 (.ofNat 1085102592571150095)) H fun t19 H =>
  pO (aBin .shr t19 (.int .u64 (.ofNat 8))) H fun t22 H =>
  pAdd t19 t22 H fun t23 H =>
  pO (aBin .shr t23 (.int .u64 (.ofNat 16))) H fun t26 H =>
  pAdd t23 t26 H fun t27 H =>
  pO (aBin .shr t27 (.int .u64 (.ofNat 32))) H fun t30 H =>
  pAdd t27 t30 H fun t31 H =>
  pConv .i64 t31 H fun t33 H =>
  pAnd t33 (.int .i64 (.ofNat 127)) H fun t34 H =>
  some (t34, H)
noncomputable def S228 : Ff := ⟨fun call l H => argA1 (fun t0 => S228_0 call t0 H) l⟩
/- (*gantline/frame.Stack).Set -/
noncomputable def S229_0 (_ : CallFn) (t1 t2 t6 t15 t22 : AV) (H : AHeap) : R :=
  pPick t15 t22 (.bool false) H fun t23 H =>
  onBool t23 (pO (aNil t6) H fun t25 H =>
  pFa 2 t25 H fun t26 H =>
  ldK .none H t26 fun t27 H =>
  pIa 1 t27 t1 H fun t30 H =>
  stK 1 H t30 t2 fun _ H =>
  some (.tup [], H)) (some (.tup [], H))
noncomputable def S229_1 (call : CallFn) (t1 t2 t6 t11 t13 : AV) (H : AHeap) : R :=
  pPick t11 t13 (.bool false) H fun t14 H =>
  guardA t14 true (pO (aNil t6) H fun t18 H =>
  pFa 2 t18 H fun t19 H =>
  ldK .none H t19 fun t20 H =>
  pO (aLen .sl H t20) H fun t21 H =>
  pLss t1 t21 H fun t22 H =>
  S229_0 call t1 t2 t6 t14 t22 H) (S229_0 call t1 t2 t6 t14 U H)
noncomputable def S229_2 (call : CallFn) (t0 t1 t2 : AV) (H : AHeap) : R :=
  pC call 125 [t0] H fun t8 H =>
  pO (aEq true .ptr t8 .nilp) H fun t10 H =>
  guardA t10 true (pGeq t1 (.int .i64 (.ofNat 0)) H fun t13 H =>
  S229_1 call t1 t2 t8 t10 t13 H) (S229_1 call t1 t2 t8 t10 U H)
noncomputable def S229 : Ff := ⟨fun call l H => argA3 (fun t0 t1 t2 => S229_2 call t0 t1 t2 H) l⟩
/- (*gantline/heap.Heap).Of -/
noncomputable def S238_0 (call : CallFn) (t0 t1 : AV) (H : AHeap) : R :=
  pNew [(.int .i64 (.ofNat 0)), (.int .i64 (.ofNat 0)), (.int .i64 (.ofNat 0))] H fun t4 H =>
  pNew [(.int .i64 (.ofNat 0)), (.int .i64 (.ofNat 0)), (.int .u64 (.ofNat 0))] H fun t5 H =>
  pO (aNil t0) H fun t13 H =>
  pFa 0 t13 H fun t14 H =>
  ldK .none H t14 fun t15 H =>
  pC call 239 [t15] H fun t16 H =>
  pC call 219 [t16, t1, (.int .i64 (.ofNat 0))] H fun t18 H =>
  pExt t18 0 H fun t19 H =>
  pExt t18 1 H fun t20 H =>
  pNeq t20 (.int .i64 (.ofNat 0)) H fun t22 H =>
  onBool t22 (pO (someAgg (aFill [(.int .i64 (.ofNat 0)), (.int .i64 (.ofNat 0)), (.int .i64 (.ofNat 0))] [])) H fun t23 H =>
  pO (someAgg (aFill [(.int .i64 (.ofNat 0)), (.int .i64 (.ofNat 0)), (.int .u64 (.ofNat 0))] [])) H fun t24 H =>
  stK 3 H t4 t23 fun _ H =>
  stK 3 H t5 t24 fun _ H =>
  ob (allM (fun o => o) [aLoad (.some 3) H t4, aLoad (.some 3) H t5, some (.bool false)]) fun vs => some (resV vs, H)) (pC call 220 [t19] H fun t27 H =>
  pExt t27 0 H fun t28 H =>
  pExt t27 1 H fun t29 H =>
  pNew [(.int .i64 (.ofNat 0)), (.int .i64 (.ofNat 0)), (.int .i64 (.ofNat 0))] H fun t9 H =>
  stK 3 H t9 t28 fun _ H =>
  pNeq t29 (.int .i64 (.ofNat 0)) H fun t31 H =>
  onBool t31 (pO (someAgg (aFill [(.int .i64 (.ofNat 0)), (.int .i64 (.ofNat 0)), (.int .i64 (.ofNat 0))] [])) H fun t32 H =>
  pO (someAgg (aFill [(.int .i64 (.ofNat 0)), (.int .i64 (.ofNat 0)), (.int .u64 (.ofNat 0))] [])) H fun t33 H =>
  stK 3 H t4 t32 fun _ H =>
  stK 3 H t5 t33 fun _ H =>
  ob (allM (fun o => o) [aLoad (.some 3) H t4, aLoad (.some 3) H t5, some (.bool false)]) fun vs => some (resV vs, H)) (pO (aNil t0) H fun t36 H =>
  pFa 0 t36 H fun t37 H =>
  ldK .none H t37 fun t38 H =>
  pFa 2 t9 H fun t40 H =>
  ldK .none H t40 fun t41 H =>
  pNew [(.int .i64 (.ofNat 0)), (.int .i64 (.ofNat 0)), (.int .u64 (.ofNat 0))] H fun t10 H =>
  pC call 73 [t38] H fun t39 H =>
  andR (andB (ckV (aLoad .none H t40) t41) true) (
  pC call 222 [t39, t41] H fun t42 H =>
  pExt t42 0 H fun t43 H =>
  pExt t42 1 H fun t44 H =>
  stK 3 H t10 t43 fun _ H =>
  pNeq t44 (.int .i64 (.ofNat 0)) H fun t46 H =>
  onBool t46 (pO (someAgg (aFill [(.int .i64 (.ofNat 0)), (.int .i64 (.ofNat 0)), (.int .i64 (.ofNat 0))] [])) H fun t47 H =>
  pO (someAgg (aFill [(.int .i64 (.ofNat 0)), (.int .i64 (.ofNat 0)), (.int .u64 (.ofNat 0))] [])) H fun t48 H =>
  stK 3 H t4 t47 fun _ H =>
  stK 3 H t5 t48 fun _ H =>
  ob (allM (fun o => o) [aLoad (.some 3) H t4, aLoad (.some 3) H t5, some (.bool false)]) fun vs => some (resV vs, H)) (ldK (.some 3) H t9 fun t49 H =>
  ldK (.some 3) H t10 fun t50 H =>
  stK 3 H t4 t49 fun _ H =>
  andR (andB (ckV (aLoad (.some 3) H t10) t50) true) (
  stK 3 H t5 t50 fun _ H =>
  ob (allM (fun o => o) [aLoad (.some 3) H t4, aLoad (.some 3) H t5, some (.bool true)]) fun vs => some (resV vs, H))))))
noncomputable def S238 : Ff := ⟨fun call l H => argA2 (fun t0 t1 => S238_0 call t0 t1 H) l⟩
/- (*gantline/cycle.Cycle).Arena -/
noncomputable def S239_0 (_ : CallFn) (t0 : AV) (H : AHeap) : R :=
  pO (aNil t0) H fun t4 H =>
  pFa 0 t4 H fun t5 H =>
  ldK .none H t5 fun t6 H =>
  some (t6, H)
noncomputable def S239 : Ff := ⟨fun call l H => argA1 (fun t0 => S239_0 call t0 H) l⟩
/- (*gantline/frame.Stack).Return -/
noncomputable def S240_0 (_ : CallFn) (t0 : AV) (H : AHeap) : R :=
  pO (aNil t0) H fun t24 H =>
  pFa 0 t24 H fun t25 H =>
  ldK .none H t25 fun t26 H =>
  pO (aLen .sl H t26) H fun t27 H =>
  pGtr t27 (.int .i64 (.ofNat 0)) H fun t28 H =>
  some (t28, H)
noncomputable def S240_1 (call : CallFn) (t0 : AV) (H : AHeap) : R :=
  pO (aNil t0) H fun t4 H =>
  pFa 0 t4 H fun t5 H =>
  ldK .none H t5 fun t6 H =>
  pO (aLen .sl H t6) H fun t7 H =>
  pGtr t7 (.int .i64 (.ofNat 0)) H fun t8 H =>
  onBool t8 (pO (aNil t0) H fun t11 H =>
  pFa 0 t11 H fun t12 H =>
  ldK .none H t12 fun t13 H =>
  pO (aNil t0) H fun t15 H =>
  pFa 0 t15 H fun t16 H =>
  ldK .none H t16 fun t17 H =>
  pO (aLen .sl H t17) H fun t18 H =>
  pSub t18 (.int .i64 (.ofNat 1)) H fun t19 H =>
  pO (aSlice 3 H t13 .none (.some t19) .none) H fun t20 H =>
  pO (aNil t0) H fun t21 H =>
  pFa 0 t21 H fun t22 H =>
  stK 1 H t22 t20 fun _ H =>
  S240_0 call t0 H) (S240_0 call t0 H)
noncomputable def S240 : Ff := ⟨fun call l H => argA1 (fun t0 => S240_1 call t0 H) l⟩
/- (*gantline/sched.Table).Drop -/
noncomputable def S241_0 (_ : CallFn) (t0 t1 : AV) (H : AHeap) : R :=
  pO (aNil t0) H fun t5 H =>
  pFa 6 t5 H fun t6 H =>
  ldK .none H t6 fun t7 H =>
  pW (unitW (aDelete .int H t7 t1)) fun _ H =>
  some (.tup [], H)
noncomputable def S241 : Ff := ⟨fun call l H => argA2 (fun t0 t1 => S241_0 call t0 t1 H) l⟩
/- (*gantline/cycle.Cycle).Dies -/
noncomputable def S242_0 (_ : CallFn) (t0 t1 : AV) (H : AHeap) : R :=
  pO (aNil t0) H fun t5 H =>
  pFa 5 t5 H fun t6 H =>
  ldK .none H t6 fun t7 H =>
  pW (unitW (aDelete .int H t7 t1)) fun _ H =>
  some (.tup [], H)
noncomputable def S242 : Ff := ⟨fun call l H => argA2 (fun t0 t1 => S242_0 call t0 t1 H) l⟩
/- (*gantline/vm.Machine).shade -/
noncomputable def S243_0 (call : CallFn) (t1 t4 t13 t16 : AV) (H : AHeap) : R :=
  pPick t13 (.bool true) t16 H fun t17 H =>
  onBool t17 (pC call 292 [t4] H fun t19 H =>
  pC call 155 [t19, t1] H fun _ H =>
  some (.tup [], H)) (some (.tup [], H))
noncomputable def S243_1 (call : CallFn) (t0 t1 : AV) (H : AHeap) : R :=
  pO (aNil t0) H fun t6 H =>
  pFa 6 t6 H fun t7 H =>
  ldK .none H t7 fun t8 H =>
  pC call 46 [t8] H fun t9 H =>
  pC call 291 [t9] H fun t11 H =>
  pEql t11 (.int .i64 (.ofNat 1)) H fun t12 H =>
  guardA t12 false (pC call 291 [t9] H fun t15 H =>
  pEql t15 (.int .i64 (.ofNat 2)) H fun t16 H =>
  S243_0 call t1 t9 t12 t16 H) (S243_0 call t1 t9 t12 U H)
noncomputable def S243 : Ff := ⟨fun call l H => argA2 (fun t0 t1 => S243_1 call t0 t1 H) l⟩
/- (*gantline/cycle.Cycle).Born -/
noncomputable def S244_0 (call : CallFn) (t0 t1 : AV) (H : AHeap) : R :=
  pC call 152 [t0] H fun t5 H =>
  onBool t5 (pO (aNil t0) H fun t7 H =>
  pFa 5 t7 H fun t8 H =>
  ldK .none H t8 fun t9 H =>
  pW (unitW (aMapUp .int H t9 t1 (.bool true))) fun _ H =>
  some (.tup [], H)) (some (.tup [], H))
noncomputable def S244 : Ff := ⟨fun call l H => argA2 (fun t0 t1 => S244_0 call t0 t1 H) l⟩
/- (*gantline/cycle.Cycle).Take -/
noncomputable def S245_0 (call : CallFn) (t0 t6 t7 t19 t21 : AV) (H : AHeap) : R :=
  pPick t19 t21 (.bool false) H fun t22 H =>
  onBool t22 (pO (aNil t0) H fun t24 H =>
  pFa 0 t24 H fun t25 H =>
  ldK .none H t25 fun t26 H =>
  pC call 224 [t26, t6] H fun _ H =>
  some (.tup [t6, t7], H)) (some (.tup [t6, t7], H))
noncomputable def S245_1 (call : CallFn) (t0 t1 : AV) (H : AHeap) : R :=
  pO (aNil t0) H fun t10 H =>
  pFa 2 t10 H fun t11 H =>
  ldK .none H t11 fun t12 H =>
  pC call 293 [t12, t1] H fun t14 H =>
  pExt t14 0 H fun t15 H =>
  pExt t14 1 H fun t16 H =>
  pEql t16 (.int .i64 (.ofNat 0)) H fun t18 H =>
  guardA t18 true (pC call 152 [t0] H fun t21 H =>
  S245_0 call t0 t15 t16 t18 t21 H) (S245_0 call t0 t15 t16 t18 U H)
noncomputable def S245 : Ff := ⟨fun call l H => argA2 (fun t0 t1 => S245_1 call t0 t1 H) l⟩
/- gantline/head.Pack -/
noncomputable def S247_0 (call : CallFn) (t0 : AV) (H : AHeap) : R :=
  pBox t0 H fun t1 H =>
  ldK (.some 3) H t1 fun t5 H =>
  pC call 289 [t5] H fun t6 H =>
  pO (aUn .not t6) H fun t7 H =>
  onBool t7 (some (.tup [(.int .i64 (.ofNat 0)), (.int .i64 (.ofNat 1))], H)) (pFa 0 t1 H fun t8 H =>
  ldK .none H t8 fun t9 H =>
  pConv .u64 t9 H fun t10 H =>
  pFa 1 t1 H fun t11 H =>
  ldK .none H t11 fun t12 H =>
  pConv .u64 t12 H fun t13 H =>
  pC call 249 [t10, (.int .i64 (.ofNat 7)), (.int .i64 (.ofNat 3)), t13] H fun t14 H =>
  pFa 2 t1 H fun t16 H =>
  ldK .none H t16 fun t17 H =>
  pConv .u64 t17 H fun t18 H =>
  pC call 249 [t14, (.int .i64 (.ofNat 10)), (.int .i64 (.ofNat 16)), t18] H fun t19 H =>
  pConv .i64 t19 H fun t20 H =>
  some (.tup [t20, (.int .i64 (.ofNat 0))], H))
noncomputable def S247 : Ff := ⟨fun call l H => argA1 (fun t0 => S247_0 call t0 H) l⟩
/- (*gantline/arena.Arena).Write -/
noncomputable def S248_0 (call : CallFn) (t0 t1 t2 t3 : AV) (H : AHeap) : R :=
  pC call 287 [t0, t1, t2] H fun t13 H =>
  pO (aEq false .ptr t13 .nilp) H fun t15 H =>
  onBool t15 (some ((.int .i64 (.ofNat 1)), H)) (pO (aNil t13) H fun t18 H =>
  stK 1 H t18 t3 fun _ H =>
  some ((.int .i64 (.ofNat 0)), H))
noncomputable def S248 : Ff := ⟨fun call l H => argA4 (fun t0 t1 t2 t3 => S248_0 call t0 t1 t2 t3 H) l⟩
/- gantline/bits.With -/
noncomputable def S249_0 (call : CallFn) (t0 t1 t2 t3 : AV) (H : AHeap) : R :=
  pC call 294 [t1, t2] H fun t11 H =>
  pO (aUn .not t11) H fun t12 H =>
  onBool t12 (some (t0, H)) (pC call 295 [t2] H fun t16 H =>
  pConv .u64 t1 H fun t18 H =>
  pO (aBin .shl t16 t18) H fun t19 H =>
  pAndN t0 t19 H fun t20 H =>
  pC call 295 [t2] H fun t23 H =>
  pAnd t3 t23 H fun t24 H =>
  pConv .u64 t1 H fun t26 H =>
  pO (aBin .shl t24 t26) H fun t27 H =>
  pOr t20 t27 H fun t28 H =>
  some (t28, H))
noncomputable def S249 : Ff := ⟨fun call l H => argA4 (fun t0 t1 t2 t3 => S249_0 call t0 t1 t2 t3 H) l⟩
/- gantline/chans.set -/
noncomputable def S251_0 (call : CallFn) (t0 t1 t2 t3 : AV) (H : AHeap) : R :=
  pC call 46 [t0] H fun t9 H =>
  pC call 239 [t9] H fun t10 H =>
  pAdd t2 (.int .i64 (.ofNat 1)) H fun t13 H =>
  pC call 248 [t10, t1, t13, t3] H fun _ H =>
  some (.tup [], H)
noncomputable def S251 : Ff := ⟨fun call l H => argA4 (fun t0 t1 t2 t3 => S251_0 call t0 t1 t2 t3 H) l⟩
/- gantline/chans.Is -/
noncomputable def S255_0 (_ : CallFn) (t16 t19 : AV) (H : AHeap) : R :=
  pPick t16 t19 (.bool false) H fun t20 H =>
  some (t20, H)
noncomputable def S255_1 (call : CallFn) (t0 t1 t2 : AV) (H : AHeap) : R :=
  pC call 259 [t0, t1] H fun t12 H =>
  pExt t12 0 H fun t13 H =>
  pExt t12 1 H fun t14 H =>
  guardA t13 true (pO (aEq false .bool t14 t2) H fun t19 H =>
  S255_0 call t13 t19 H) (S255_0 call t13 U H)
noncomputable def S255 : Ff := ⟨fun call l H => argA3 (fun t0 t1 t2 => S255_1 call t0 t1 t2 H) l⟩
/- gantline/chans.Push -/
noncomputable def S257_0 (call : CallFn) (t0 t1 t2 t9 : AV) (H : AHeap) : R :=
  pC call 251 [t0, t1, t9, t2] H fun _ H =>
  pC call 216 [t0, t1] H fun t61 H =>
  pAdd t61 (.int .i64 (.ofNat 1)) H fun t62 H =>
  pC call 251 [t0, t1, (.int .i64 (.ofNat 1)), t62] H fun _ H =>
  some ((.bool true), H)
noncomputable def S257_1 (call : CallFn) (t0 t1 t2 t3 t15 t22 : AV) (H : AHeap) : R :=
  pPick t15 (.bool true) t22 H fun t23 H =>
  onBool t23 (some ((.bool false), H)) (pC call 258 [t0, t1, (.int .i64 (.ofNat 2))] H fun t26 H =>
  pC call 216 [t0, t1] H fun t29 H =>
  pAdd t26 t29 H fun t30 H =>
  pC call 217 [t0, t1] H fun t33 H =>
  pO (aBin .rem t30 t33) H fun t34 H =>
  pAdd (.int .i64 (.ofNat 4)) t34 H fun t35 H =>
  pC call 259 [t0, t1] H fun t39 H =>
  pExt t39 0 H fun _ H =>
  pExt t39 1 H fun t41 H =>
  onBool t41 (pC call 46 [t0] H fun t44 H =>
  pC call 258 [t0, t1, t35] H fun t48 H =>
  pC call 181 [t44, t48, t2, t3] H fun _ H =>
  S257_0 call t0 t1 t2 t35 H) (S257_0 call t0 t1 t2 t35 H))
noncomputable def S257_2 (call : CallFn) (t0 t1 t2 t3 : AV) (H : AHeap) : R :=
  pC call 215 [t0, t1] H fun t14 H =>
  guardA t14 false (pC call 216 [t0, t1] H fun t18 H =>
  pC call 217 [t0, t1] H fun t21 H =>
  pGeq t18 t21 H fun t22 H =>
  S257_1 call t0 t1 t2 t3 t14 t22 H) (S257_1 call t0 t1 t2 t3 t14 U H)
noncomputable def S257 : Ff := ⟨fun call l H => argA4 (fun t0 t1 t2 t3 => S257_2 call t0 t1 t2 t3 H) l⟩
/- gantline/chans.get -/
noncomputable def S258_0 (call : CallFn) (t0 t1 t2 : AV) (H : AHeap) : R :=
  pC call 46 [t0] H fun t11 H =>
  pC call 239 [t11] H fun t12 H =>
  pAdd t2 (.int .i64 (.ofNat 1)) H fun t15 H =>
  pC call 219 [t12, t1, t15] H fun t16 H =>
  pExt t16 0 H fun t17 H =>
  pExt t16 1 H fun _ H =>
  some (t17, H)
noncomputable def S258 : Ff := ⟨fun call l H => argA3 (fun t0 t1 t2 => S258_0 call t0 t1 t2 H) l⟩
/- slices.IndexFunc[[]gantline/head.Shape,gantline/head.Shape] -/
noncomputable def S266_0 (call : CallFn) (n : Nat) : AV → AV → AV → AV → AHeap → R :=
  Nat.rec (motive := fun _ => AV → AV → AV → AV → AHeap → R) (fun _ _ _ _ _ => none) (fun _ q0 t0 t1 t7 t8 H => pLss t8 t7 H fun t9 H =>
  onBool t9 (pIa 3 t0 t8 H fun t14 H =>
  ldK (.some 3) H t14 fun t15 H =>
  pV call t1 [t15] H fun t16 H =>
  onBool t16 (some (t8, H)) (pAdd t8 (.int .i64 (.ofNat 1)) H fun t18 H =>
  q0 t0 t1 t7 t18 H)) (some ((.int .i64 (.negSucc 0)), H))) n
noncomputable def S266_1 (call : CallFn) (t0 t1 : AV) (H : AHeap) : R :=
  pO (aLen .sl H t0) H fun t7 H =>
  S266_0 call 1000000 t0 t1 t7 (.int .i64 (.ofNat 0)) H
noncomputable def S266 : Ff := ⟨fun call l H => argA2 (fun t0 t1 => S266_1 call t0 t1 H) l⟩
/- slices.IndexFunc[[]int64,int64] -/
noncomputable def S267_0 (call : CallFn) (n : Nat) : AV → AV → AV → AV → AHeap → R :=
  Nat.rec (motive := fun _ => AV → AV → AV → AV → AHeap → R) (fun _ _ _ _ _ => none) (fun _ q0 t0 t1 t7 t8 H => pLss t8 t7 H fun t9 H =>
  onBool t9 (pIa 1 t0 t8 H fun t14 H =>
  ldK .none H t14 fun t15 H =>
  pV call t1 [t15] H fun t16 H =>
  onBool t16 (some (t8, H)) (pAdd t8 (.int .i64 (.ofNat 1)) H fun t18 H =>
  q0 t0 t1 t7 t18 H)) (some ((.int .i64 (.negSucc 0)), H))) n
noncomputable def S267_1 (call : CallFn) (t0 t1 : AV) (H : AHeap) : R :=
  pO (aLen .sl H t0) H fun t7 H =>
  S267_0 call 1000000 t0 t1 t7 (.int .i64 (.ofNat 0)) H
noncomputable def S267 : Ff := ⟨fun call l H => argA2 (fun t0 t1 => S267_1 call t0 t1 H) l⟩
/- (*gantline/verify.checker).slots$1 -/
noncomputable def S268_0 (_ : CallFn) (t6 t9 : AV) (H : AHeap) : R :=
  pPick t6 (.bool true) t9 H fun t10 H =>
  some (t10, H)
noncomputable def S268_1 (call : CallFn) (t0 t1 : AV) (H : AHeap) : R :=
  pEql t0 (.int .i64 (.negSucc 0)) H fun t5 H =>
  guardA t5 false (ldK .none H t1 fun t7 H =>
  pC call 269 [t7, t0] H fun t9 H =>
  S268_0 call t5 t9 H) (S268_0 call t5 U H)
noncomputable def S268 : Ff := ⟨fun call l H => argA2 (fun t0 t1 => S268_1 call t0 t1 H) l⟩
/- (*gantline/verify.checker).slot -/
noncomputable def S269_0 (_ : CallFn) (t7 t14 : AV) (H : AHeap) : R :=
  pPick t7 t14 (.bool false) H fun t15 H =>
  some (t15, H)
noncomputable def S269_1 (call : CallFn) (t0 t1 : AV) (H : AHeap) : R :=
  pGeq t1 (.int .i64 (.ofNat 0)) H fun t6 H =>
  guardA t6 true (pO (aNil t0) H fun t10 H =>
  pFa 6 t10 H fun t11 H =>
  pFa 2 t11 H fun t12 H =>
  ldK .none H t12 fun t13 H =>
  pLss t1 t13 H fun t14 H =>
  S269_0 call t6 t14 H) (S269_0 call t6 U H)
noncomputable def S269 : Ff := ⟨fun call l H => argA2 (fun t0 t1 => S269_1 call t0 t1 H) l⟩
/- (*gantline/verify.checker).run -/
noncomputable def S270_0 (_ : CallFn) (t9 t31 : AV) (H : AHeap) : R :=
  pPick t9 (.bool true) t31 H fun t32 H =>
  some (t32, H)
noncomputable def S270_1 (call : CallFn) (t9 t21 t30 : AV) (H : AHeap) : R :=
  guardA t9 false (pPick t21 t30 (.bool false) H fun t31 H =>
  S270_0 call t9 t31 H) (S270_0 call t9 U H)
noncomputable def S270_2 (call : CallFn) (t0 t1 t2 t9 t21 : AV) (H : AHeap) : R :=
  guardA t21 true (pO (aNil t0) H fun t24 H =>
  pFa 6 t24 H fun t25 H =>
  pFa 2 t25 H fun t26 H =>
  ldK .none H t26 fun t27 H =>
  pSub t27 t2 H fun t29 H =>
  pLeq t1 t29 H fun t30 H =>
  S270_1 call t9 t21 t30 H) (S270_1 call t9 t21 U H)
noncomputable def S270_3 (call : CallFn) (t0 t1 t2 t9 t12 t19 : AV) (H : AHeap) : R :=
  guardA t9 false (pPick t12 t19 (.bool false) H fun t20 H =>
  S270_2 call t0 t1 t2 t9 t20 H) (S270_2 call t0 t1 t2 t9 U H)
noncomputable def S270_4 (call : CallFn) (t0 t1 t2 t9 t12 : AV) (H : AHeap) : R :=
  guardA t12 true (pO (aNil t0) H fun t15 H =>
  pFa 6 t15 H fun t16 H =>
  pFa 2 t16 H fun t17 H =>
  ldK .none H t17 fun t18 H =>
  pLeq t2 t18 H fun t19 H =>
  S270_3 call t0 t1 t2 t9 t12 t19 H) (S270_3 call t0 t1 t2 t9 t12 U H)
noncomputable def S270_5 (call : CallFn) (t0 t1 t2 : AV) (H : AHeap) : R :=
  pLeq t2 (.int .i64 (.ofNat 0)) H fun t8 H =>
  guardA t8 false (pGeq t1 (.int .i64 (.ofNat 0)) H fun t11 H =>
  S270_4 call t0 t1 t2 t8 t11 H) (S270_4 call t0 t1 t2 t8 U H)
noncomputable def S270 : Ff := ⟨fun call l H => argA3 (fun t0 t1 t2 => S270_5 call t0 t1 t2 H) l⟩
/- (*gantline/verify.checker).params -/
noncomputable def S271_0 (call : CallFn) (t0 t1 : AV) (H : AHeap) : R :=
  pC call 272 [t0, t1] H fun t10 H =>
  pExt t10 0 H fun t11 H =>
  pExt t10 1 H fun _ H =>
  pNew [(.int .i64 (.ofNat 0)), (.int .i64 (.ofNat 0)), (.int .i64 (.ofNat 0)), (.int .i64 (.ofNat 0)), .nilsl, .nilsl, .nilsl] H fun t5 H =>
  stK 7 H t5 t11 fun _ H =>
  pFa 0 t5 H fun t13 H =>
  ldK .none H t13 fun t14 H =>
  some (t14, H)
noncomputable def S271 : Ff := ⟨fun call l H => argA2 (fun t0 t1 => S271_0 call t0 t1 H) l⟩
/- (*gantline/verify.checker).fn -/
noncomputable def S272_0 (_ : CallFn) (t0 t1 t4 t8 t16 : AV) (H : AHeap) : R :=
  pPick t8 (.bool true) t16 H fun t17 H =>
  onBool t17 (pO (someAgg (aFill [(.int .i64 (.ofNat 0)), (.int .i64 (.ofNat 0)), (.int .i64 (.ofNat 0)), (.int .i64 (.ofNat 0)), .nilsl, .nilsl, .nilsl] [])) H fun t18 H =>
  stK 7 H t4 t18 fun _ H =>
  ob (allM (fun o => o) [aLoad (.some 7) H t4, some (.bool false)]) fun vs => some (resV vs, H)) (pO (aNil t0) H fun t20 H =>
  pFa 0 t20 H fun t21 H =>
  pFa 4 t21 H fun t22 H =>
  ldK .none H t22 fun t23 H =>
  pIa 7 t23 t1 H fun t25 H =>
  ldK (.some 7) H t25 fun t26 H =>
  stK 7 H t4 t26 fun _ H =>
  ob (allM (fun o => o) [aLoad (.some 7) H t4, some (.bool true)]) fun vs => some (resV vs, H))
noncomputable def S272_1 (call : CallFn) (t0 t1 : AV) (H : AHeap) : R :=
  pNew [(.int .i64 (.ofNat 0)), (.int .i64 (.ofNat 0)), (.int .i64 (.ofNat 0)), (.int .i64 (.ofNat 0)), .nilsl, .nilsl, .nilsl] H fun t4 H =>
  pLss t1 (.int .i64 (.ofNat 0)) H fun t7 H =>
  guardA t7 false (pO (aNil t0) H fun t11 H =>
  pFa 0 t11 H fun t12 H =>
  pFa 4 t12 H fun t13 H =>
  ldK .none H t13 fun t14 H =>
  pO (aLen .sl H t14) H fun t15 H =>
  pGeq t1 t15 H fun t16 H =>
  S272_0 call t0 t1 t4 t7 t16 H) (S272_0 call t0 t1 t4 t7 U H)
noncomputable def S272 : Ff := ⟨fun call l H => argA2 (fun t0 t1 => S272_1 call t0 t1 H) l⟩
/- (*gantline/verify.checker).cases -/
noncomputable def S273_0 (_ : CallFn) (t0 t32 t50 : AV) (H : AHeap) : R :=
  pPick t32 (.bool true) t50 H fun t51 H =>
  onBool t51 (some (.tup [.nilsl, (.bool false)], H)) (pO (aNil t0) H fun t53 H =>
  pFa 0 t53 H fun t54 H =>
  pFa 3 t54 H fun t55 H =>
  ldK .none H t55 fun t56 H =>
  pO (aNil t0) H fun t58 H =>
  pFa 17 t58 H fun t59 H =>
  pFa 1 t59 H fun t60 H =>
  ldK .none H t60 fun t61 H =>
  pO (aNil t0) H fun t63 H =>
  pFa 17 t63 H fun t64 H =>
  pFa 1 t64 H fun t65 H =>
  ldK .none H t65 fun t66 H =>
  pO (aNil t0) H fun t68 H =>
  pFa 17 t68 H fun t69 H =>
  pFa 2 t69 H fun t70 H =>
  ldK .none H t70 fun t71 H =>
  pAdd t66 t71 H fun t72 H =>
  pO (aSlice 4 H t56 (.some t61) (.some t72) .none) H fun t73 H =>
  some (.tup [t73, (.bool true)], H))
noncomputable def S273_1 (call : CallFn) (t0 t32 t37 t49 : AV) (H : AHeap) : R :=
  guardA t32 false (pGtr t37 t49 H fun t50 H =>
  S273_0 call t0 t32 t50 H) (S273_0 call t0 t32 U H)
noncomputable def S273_2 (call : CallFn) (t0 t32 t37 t43 t48 : AV) (H : AHeap) : R :=
  guardA t32 false (pSub t43 t48 H fun t49 H =>
  S273_1 call t0 t32 t37 t49 H) (S273_1 call t0 t32 t37 U H)
noncomputable def S273_3 (call : CallFn) (t0 t32 t37 t43 t47 : AV) (H : AHeap) : R :=
  guardA t32 false (ldK .none H t47 fun t48 H =>
  S273_2 call t0 t32 t37 t43 t48 H) (S273_2 call t0 t32 t37 t43 U H)
noncomputable def S273_4 (call : CallFn) (t0 t32 t37 t43 t46 : AV) (H : AHeap) : R :=
  guardA t32 false (pFa 1 t46 H fun t47 H =>
  S273_3 call t0 t32 t37 t43 t47 H) (S273_3 call t0 t32 t37 t43 U H)
noncomputable def S273_5 (call : CallFn) (t0 t32 t37 t43 t45 : AV) (H : AHeap) : R :=
  guardA t32 false (pFa 17 t45 H fun t46 H =>
  S273_4 call t0 t32 t37 t43 t46 H) (S273_4 call t0 t32 t37 t43 U H)
noncomputable def S273_6 (call : CallFn) (t0 t32 t37 t43 t44 : AV) (H : AHeap) : R :=
  guardA t32 false (pO (aNil t44) H fun t45 H =>
  S273_5 call t0 t32 t37 t43 t45 H) (S273_5 call t0 t32 t37 t43 U H)
noncomputable def S273_7 (call : CallFn) (t0 t32 t37 t43 : AV) (H : AHeap) : R :=
  guardA t32 false (S273_6 call t0 t32 t37 t43 t0 H) (S273_6 call t0 t32 t37 t43 U H)
noncomputable def S273_8 (call : CallFn) (t0 t32 t37 t42 : AV) (H : AHeap) : R :=
  guardA t32 false (pO (aLen .sl H t42) H fun t43 H =>
  S273_7 call t0 t32 t37 t43 H) (S273_7 call t0 t32 t37 U H)
noncomputable def S273_9 (call : CallFn) (t0 t32 t37 t41 : AV) (H : AHeap) : R :=
  guardA t32 false (ldK .none H t41 fun t42 H =>
  S273_8 call t0 t32 t37 t42 H) (S273_8 call t0 t32 t37 U H)
noncomputable def S273_10 (call : CallFn) (t0 t32 t37 t40 : AV) (H : AHeap) : R :=
  guardA t32 false (pFa 3 t40 H fun t41 H =>
  S273_9 call t0 t32 t37 t41 H) (S273_9 call t0 t32 t37 U H)
noncomputable def S273_11 (call : CallFn) (t0 t32 t37 t39 : AV) (H : AHeap) : R :=
  guardA t32 false (pFa 0 t39 H fun t40 H =>
  S273_10 call t0 t32 t37 t40 H) (S273_10 call t0 t32 t37 U H)
noncomputable def S273_12 (call : CallFn) (t0 t32 t37 t38 : AV) (H : AHeap) : R :=
  guardA t32 false (pO (aNil t38) H fun t39 H =>
  S273_11 call t0 t32 t37 t39 H) (S273_11 call t0 t32 t37 U H)
noncomputable def S273_13 (call : CallFn) (t0 t32 t37 : AV) (H : AHeap) : R :=
  guardA t32 false (S273_12 call t0 t32 t37 t0 H) (S273_12 call t0 t32 t37 U H)
noncomputable def S273_14 (call : CallFn) (t0 t32 t36 : AV) (H : AHeap) : R :=
  guardA t32 false (ldK .none H t36 fun t37 H =>
  S273_13 call t0 t32 t37 H) (S273_13 call t0 t32 U H)
noncomputable def S273_15 (call : CallFn) (t0 t32 t35 : AV) (H : AHeap) : R :=
  guardA t32 false (pFa 2 t35 H fun t36 H =>
  S273_14 call t0 t32 t36 H) (S273_14 call t0 t32 U H)
noncomputable def S273_16 (call : CallFn) (t0 t32 t34 : AV) (H : AHeap) : R :=
  guardA t32 false (pFa 17 t34 H fun t35 H =>
  S273_15 call t0 t32 t35 H) (S273_15 call t0 t32 U H)
noncomputable def S273_17 (call : CallFn) (t0 t32 t33 : AV) (H : AHeap) : R :=
  guardA t32 false (pO (aNil t33) H fun t34 H =>
  S273_16 call t0 t32 t34 H) (S273_16 call t0 t32 U H)
noncomputable def S273_18 (call : CallFn) (t0 t18 t30 : AV) (H : AHeap) : R :=
  pPick t18 (.bool true) t30 H fun t31 H =>
  guardA t31 false (S273_17 call t0 t31 t0 H) (S273_17 call t0 t31 U H)
noncomputable def S273_19 (call : CallFn) (t0 t18 t23 t29 : AV) (H : AHeap) : R :=
  guardA t18 false (pGtr t23 t29 H fun t30 H =>
  S273_18 call t0 t18 t30 H) (S273_18 call t0 t18 U H)
noncomputable def S273_20 (call : CallFn) (t0 t18 t23 t28 : AV) (H : AHeap) : R :=
  guardA t18 false (pO (aLen .sl H t28) H fun t29 H =>
  S273_19 call t0 t18 t23 t29 H) (S273_19 call t0 t18 t23 U H)
noncomputable def S273_21 (call : CallFn) (t0 t18 t23 t27 : AV) (H : AHeap) : R :=
  guardA t18 false (ldK .none H t27 fun t28 H =>
  S273_20 call t0 t18 t23 t28 H) (S273_20 call t0 t18 t23 U H)
noncomputable def S273_22 (call : CallFn) (t0 t18 t23 t26 : AV) (H : AHeap) : R :=
  guardA t18 false (pFa 3 t26 H fun t27 H =>
  S273_21 call t0 t18 t23 t27 H) (S273_21 call t0 t18 t23 U H)
noncomputable def S273_23 (call : CallFn) (t0 t18 t23 t25 : AV) (H : AHeap) : R :=
  guardA t18 false (pFa 0 t25 H fun t26 H =>
  S273_22 call t0 t18 t23 t26 H) (S273_22 call t0 t18 t23 U H)
noncomputable def S273_24 (call : CallFn) (t0 t18 t23 t24 : AV) (H : AHeap) : R :=
  guardA t18 false (pO (aNil t24) H fun t25 H =>
  S273_23 call t0 t18 t23 t25 H) (S273_23 call t0 t18 t23 U H)
noncomputable def S273_25 (call : CallFn) (t0 t18 t23 : AV) (H : AHeap) : R :=
  guardA t18 false (S273_24 call t0 t18 t23 t0 H) (S273_24 call t0 t18 t23 U H)
noncomputable def S273_26 (call : CallFn) (t0 t18 t22 : AV) (H : AHeap) : R :=
  guardA t18 false (ldK .none H t22 fun t23 H =>
  S273_25 call t0 t18 t23 H) (S273_25 call t0 t18 U H)
noncomputable def S273_27 (call : CallFn) (t0 t18 t21 : AV) (H : AHeap) : R :=
  guardA t18 false (pFa 1 t21 H fun t22 H =>
  S273_26 call t0 t18 t22 H) (S273_26 call t0 t18 U H)
noncomputable def S273_28 (call : CallFn) (t0 t18 t20 : AV) (H : AHeap) : R :=
  guardA t18 false (pFa 17 t20 H fun t21 H =>
  S273_27 call t0 t18 t21 H) (S273_27 call t0 t18 U H)
noncomputable def S273_29 (call : CallFn) (t0 t18 t19 : AV) (H : AHeap) : R :=
  guardA t18 false (pO (aNil t19) H fun t20 H =>
  S273_28 call t0 t18 t20 H) (S273_28 call t0 t18 U H)
noncomputable def S273_30 (call : CallFn) (t0 t10 t16 : AV) (H : AHeap) : R :=
  pPick t10 (.bool true) t16 H fun t17 H =>
  guardA t17 false (S273_29 call t0 t17 t0 H) (S273_29 call t0 t17 U H)
noncomputable def S273_31 (call : CallFn) (t0 t10 t15 : AV) (H : AHeap) : R :=
  guardA t10 false (pLss t15 (.int .i64 (.ofNat 1)) H fun t16 H =>
  S273_30 call t0 t10 t16 H) (S273_30 call t0 t10 U H)
noncomputable def S273_32 (call : CallFn) (t0 t10 t14 : AV) (H : AHeap) : R :=
  guardA t10 false (ldK .none H t14 fun t15 H =>
  S273_31 call t0 t10 t15 H) (S273_31 call t0 t10 U H)
noncomputable def S273_33 (call : CallFn) (t0 t10 t13 : AV) (H : AHeap) : R :=
  guardA t10 false (pFa 2 t13 H fun t14 H =>
  S273_32 call t0 t10 t14 H) (S273_32 call t0 t10 U H)
noncomputable def S273_34 (call : CallFn) (t0 t10 t12 : AV) (H : AHeap) : R :=
  guardA t10 false (pFa 17 t12 H fun t13 H =>
  S273_33 call t0 t10 t13 H) (S273_33 call t0 t10 U H)
noncomputable def S273_35 (call : CallFn) (t0 t10 t11 : AV) (H : AHeap) : R :=
  guardA t10 false (pO (aNil t11) H fun t12 H =>
  S273_34 call t0 t10 t12 H) (S273_34 call t0 t10 U H)
noncomputable def S273_36 (call : CallFn) (t0 : AV) (H : AHeap) : R :=
  pO (aNil t0) H fun t5 H =>
  pFa 17 t5 H fun t6 H =>
  pFa 1 t6 H fun t7 H =>
  ldK .none H t7 fun t8 H =>
  pLss t8 (.int .i64 (.ofNat 0)) H fun t9 H =>
  guardA t9 false (S273_35 call t0 t9 t0 H) (S273_35 call t0 t9 U H)
noncomputable def S273 : Ff := ⟨fun call l H => argA1 (fun t0 => S273_36 call t0 H) l⟩
/- slices.ContainsFunc[[]gantline/code.Case,gantline/code.Case] -/
noncomputable def S274_0 (call : CallFn) (t0 t1 : AV) (H : AHeap) : R :=
  pC call 298 [t0, t1] H fun t7 H =>
  pGeq t7 (.int .i64 (.ofNat 0)) H fun t8 H =>
  some (t8, H)
noncomputable def S274 : Ff := ⟨fun call l H => argA2 (fun t0 t1 => S274_0 call t0 t1 H) l⟩
/- (*gantline/verify.checker).slots$2 -/
noncomputable def S275_0 (_ : CallFn) (t21 t37 : AV) (H : AHeap) : R :=
  pPick t21 (.bool true) t37 H fun t38 H =>
  some (t38, H)
noncomputable def S275_1 (call : CallFn) (t21 t25 t36 : AV) (H : AHeap) : R :=
  guardA t21 false (pPick t25 t36 (.bool false) H fun t37 H =>
  S275_0 call t21 t37 H) (S275_0 call t21 U H)
noncomputable def S275_2 (call : CallFn) (t21 t25 t30 t34 : AV) (H : AHeap) : R :=
  guardA t25 true (pPick t30 t34 (.bool false) H fun t35 H =>
  pO (aUn .not t35) H fun t36 H =>
  S275_1 call t21 t25 t36 H) (S275_1 call t21 t25 U H)
noncomputable def S275_3 (call : CallFn) (t1 t3 t21 t25 t30 : AV) (H : AHeap) : R :=
  guardA t30 true (ldK .none H t1 fun t31 H =>
  pFa 2 t3 H fun t32 H =>
  ldK .none H t32 fun t33 H =>
  pC call 269 [t31, t33] H fun t34 H =>
  S275_2 call t21 t25 t30 t34 H) (S275_2 call t21 t25 t30 U H)
noncomputable def S275_4 (call : CallFn) (t1 t3 t21 t25 : AV) (H : AHeap) : R :=
  guardA t25 true (ldK .none H t1 fun t26 H =>
  pFa 1 t3 H fun t27 H =>
  ldK .none H t27 fun t28 H =>
  pC call 269 [t26, t28] H fun t29 H =>
  S275_3 call t1 t3 t21 t25 t29 H) (S275_3 call t1 t3 t21 t25 U H)
noncomputable def S275_5 (call : CallFn) (t1 t3 t8 t19 : AV) (H : AHeap) : R :=
  pPick t8 t19 (.bool false) H fun t20 H =>
  guardA t20 false (pFa 0 t3 H fun t22 H =>
  ldK .none H t22 fun t23 H =>
  pEql t23 (.int .i64 (.ofNat 1)) H fun t24 H =>
  S275_4 call t1 t3 t20 t24 H) (S275_4 call t1 t3 t20 U H)
noncomputable def S275_6 (call : CallFn) (t1 t3 t8 t13 t17 : AV) (H : AHeap) : R :=
  guardA t8 true (pPick t13 t17 (.bool false) H fun t18 H =>
  pO (aUn .not t18) H fun t19 H =>
  S275_5 call t1 t3 t8 t19 H) (S275_5 call t1 t3 t8 U H)
noncomputable def S275_7 (call : CallFn) (t1 t2 t3 t8 t13 : AV) (H : AHeap) : R :=
  guardA t13 true (ldK .none H t2 fun t14 H =>
  pFa 2 t3 H fun t15 H =>
  ldK .none H t15 fun t16 H =>
  pV call t14 [t16] H fun t17 H =>
  S275_6 call t1 t3 t8 t13 t17 H) (S275_6 call t1 t3 t8 t13 U H)
noncomputable def S275_8 (call : CallFn) (t0 t1 t2 : AV) (H : AHeap) : R :=
  pBox t0 H fun t3 H =>
  pFa 0 t3 H fun t5 H =>
  ldK .none H t5 fun t6 H =>
  pEql t6 (.int .i64 (.ofNat 0)) H fun t7 H =>
  guardA t7 true (ldK .none H t1 fun t9 H =>
  pFa 1 t3 H fun t10 H =>
  ldK .none H t10 fun t11 H =>
  pC call 269 [t9, t11] H fun t12 H =>
  S275_7 call t1 t2 t3 t7 t12 H) (S275_7 call t1 t2 t3 t7 U H)
noncomputable def S275 : Ff := ⟨fun call l H => argA3 (fun t0 t1 t2 => S275_8 call t0 t1 t2 H) l⟩
/- slices.ContainsFunc[[]int,int] -/
noncomputable def S276_0 (call : CallFn) (t0 t1 : AV) (H : AHeap) : R :=
  pC call 135 [t0, t1] H fun t7 H =>
  pGeq t7 (.int .i64 (.ofNat 0)) H fun t8 H =>
  some (t8, H)
noncomputable def S276 : Ff := ⟨fun call l H => argA2 (fun t0 t1 => S276_0 call t0 t1 H) l⟩
/- (*gantline/verify.checker).slots$3 -/
noncomputable def S277_0 (call : CallFn) (t0 t1 : AV) (H : AHeap) : R :=
  ldK .none H t1 fun t4 H =>
  pC call 269 [t4, t0] H fun t6 H =>
  pO (aUn .not t6) H fun t7 H =>
  some (t7, H)
noncomputable def S277 : Ff := ⟨fun call l H => argA2 (fun t0 t1 => S277_0 call t0 t1 H) l⟩
/- (*gantline/verify.checker).shape -/
noncomputable def S278_0 (_ : CallFn) (t19 t30 : AV) (H : AHeap) : R :=
  pPick t19 t30 (.bool false) H fun t31 H =>
  some (t31, H)
noncomputable def S278_1 (call : CallFn) (t0 t1 t2 t9 t17 : AV) (H : AHeap) : R :=
  pPick t9 t17 (.bool false) H fun t18 H =>
  guardA t18 true (pO (aNil t0) H fun t21 H =>
  pFa 0 t21 H fun t22 H =>
  pFa 0 t22 H fun t23 H =>
  ldK .none H t23 fun t24 H =>
  pIa 3 t24 t1 H fun t26 H =>
  pFa 0 t26 H fun t27 H =>
  ldK .none H t27 fun t28 H =>
  pEql t28 t2 H fun t30 H =>
  S278_0 call t18 t30 H) (S278_0 call t18 U H)
noncomputable def S278_2 (call : CallFn) (t0 t1 t2 : AV) (H : AHeap) : R :=
  pGeq t1 (.int .i64 (.ofNat 0)) H fun t8 H =>
  guardA t8 true (pO (aNil t0) H fun t12 H =>
  pFa 0 t12 H fun t13 H =>
  pFa 0 t13 H fun t14 H =>
  ldK .none H t14 fun t15 H =>
  pO (aLen .sl H t15) H fun t16 H =>
  pLss t1 t16 H fun t17 H =>
  S278_1 call t0 t1 t2 t8 t17 H) (S278_1 call t0 t1 t2 t8 U H)
noncomputable def S278 : Ff := ⟨fun call l H => argA3 (fun t0 t1 t2 => S278_2 call t0 t1 t2 H) l⟩
/- (*gantline/verify.checker).fresh -/
noncomputable def S279_0 (_ : CallFn) (t5 : AV) (H : AHeap) : R :=
  pLeq t5 (.int .i64 (.ofNat 1)) H fun t71 H =>
  some (t71, H)
noncomputable def S279_1 (call : CallFn) (n : Nat) : AV → AV → AV → AV → AHeap → R :=
  Nat.rec (motive := fun _ => AV → AV → AV → AV → AHeap → R) (fun _ _ _ _ _ => none) (fun _ q0 t0 t5 t53 t54 H => pLss t54 t53 H fun t55 H =>
  onBool t55 (pO (aNil t0) H fun t58 H =>
  pFa 15 t58 H fun t59 H =>
  ldK .none H t59 fun t60 H =>
  pO (aNil t0) H fun t62 H =>
  pFa 17 t62 H fun t63 H =>
  pFa 1 t63 H fun t64 H =>
  ldK .none H t64 fun t65 H =>
  pAdd t65 t54 H fun t67 H =>
  pIa 1 t60 t67 H fun t68 H =>
  stK 1 H t68 (.bool true) fun _ H =>
  pAdd t54 (.int .i64 (.ofNat 1)) H fun t69 H =>
  q0 t0 t5 t53 t69 H) (S279_0 call t5 H)) n
noncomputable def S279_2 (call : CallFn) (t0 t3 t5 : AV) (H : AHeap) : R :=
  pO (aLen .sl H t3) H fun t53 H =>
  S279_1 call 1000000 t0 t5 t53 (.int .i64 (.ofNat 0)) H
noncomputable def S279_4 (_ : CallFn) (q1 : AV → AV → AV → AV → AV → AV → AHeap → R) (t0 t3 t5 t16 t17 t18 : AV) (H : AHeap) : R :=
  pAdd t18 (.int .i64 (.ofNat 1)) H fun t51 H =>
  q1 t0 t3 t5 t16 t17 t51 H
noncomputable def S279_5 (call : CallFn) (q1 : AV → AV → AV → AV → AV → AV → AHeap → R) (t0 t3 t5 t7 t16 t17 t18 t31 t44 : AV) (H : AHeap) : R :=
  pPick t31 (.bool true) t44 H fun t45 H =>
  onBool t45 (some ((.bool false), H)) (pFa 0 t7 H fun t46 H =>
  ldK .none H t46 fun t47 H =>
  pEql t47 (.int .i64 (.ofNat 2)) H fun t48 H =>
  onBool t48 (pAdd t5 (.int .i64 (.ofNat 1)) H fun t50 H =>
  S279_4 call q1 t0 t3 t50 t16 t17 t18 H) (S279_4 call q1 t0 t3 t5 t16 t17 t18 H))
noncomputable def S279_6 (call : CallFn) (q1 : AV → AV → AV → AV → AV → AV → AHeap → R) (t0 t3 t5 t7 t16 t17 t18 t31 t43 : AV) (H : AHeap) : R :=
  guardA t31 false (ldK .none H t43 fun t44 H =>
  S279_5 call q1 t0 t3 t5 t7 t16 t17 t18 t31 t44 H) (S279_5 call q1 t0 t3 t5 t7 t16 t17 t18 t31 U H)
noncomputable def S279_7 (call : CallFn) (q1 : AV → AV → AV → AV → AV → AV → AHeap → R) (t0 t3 t5 t7 t16 t17 t18 t31 t35 t42 : AV) (H : AHeap) : R :=
  guardA t31 false (pIa 1 t35 t42 H fun t43 H =>
  S279_6 call q1 t0 t3 t5 t7 t16 t17 t18 t31 t43 H) (S279_6 call q1 t0 t3 t5 t7 t16 t17 t18 t31 U H)
noncomputable def S279_8 (call : CallFn) (q1 : AV → AV → AV → AV → AV → AV → AHeap → R) (t0 t3 t5 t7 t16 t17 t18 t31 t35 t40 t41 : AV) (H : AHeap) : R :=
  guardA t31 false (pAdd t40 t41 H fun t42 H =>
  S279_7 call q1 t0 t3 t5 t7 t16 t17 t18 t31 t35 t42 H) (S279_7 call q1 t0 t3 t5 t7 t16 t17 t18 t31 t35 U H)
noncomputable def S279_9 (call : CallFn) (q1 : AV → AV → AV → AV → AV → AV → AHeap → R) (t0 t3 t5 t6 t7 t16 t17 t18 t31 t35 t40 : AV) (H : AHeap) : R :=
  guardA t31 false (S279_8 call q1 t0 t3 t5 t7 t16 t17 t18 t31 t35 t40 t6 H) (S279_8 call q1 t0 t3 t5 t7 t16 t17 t18 t31 t35 t40 U H)
noncomputable def S279_10 (call : CallFn) (q1 : AV → AV → AV → AV → AV → AV → AHeap → R) (t0 t3 t5 t6 t7 t16 t17 t18 t31 t35 t39 : AV) (H : AHeap) : R :=
  guardA t31 false (ldK .none H t39 fun t40 H =>
  S279_9 call q1 t0 t3 t5 t6 t7 t16 t17 t18 t31 t35 t40 H) (S279_9 call q1 t0 t3 t5 t6 t7 t16 t17 t18 t31 t35 U H)
noncomputable def S279_11 (call : CallFn) (q1 : AV → AV → AV → AV → AV → AV → AHeap → R) (t0 t3 t5 t6 t7 t16 t17 t18 t31 t35 t38 : AV) (H : AHeap) : R :=
  guardA t31 false (pFa 1 t38 H fun t39 H =>
  S279_10 call q1 t0 t3 t5 t6 t7 t16 t17 t18 t31 t35 t39 H) (S279_10 call q1 t0 t3 t5 t6 t7 t16 t17 t18 t31 t35 U H)
noncomputable def S279_12 (call : CallFn) (q1 : AV → AV → AV → AV → AV → AV → AHeap → R) (t0 t3 t5 t6 t7 t16 t17 t18 t31 t35 t37 : AV) (H : AHeap) : R :=
  guardA t31 false (pFa 17 t37 H fun t38 H =>
  S279_11 call q1 t0 t3 t5 t6 t7 t16 t17 t18 t31 t35 t38 H) (S279_11 call q1 t0 t3 t5 t6 t7 t16 t17 t18 t31 t35 U H)
noncomputable def S279_13 (call : CallFn) (q1 : AV → AV → AV → AV → AV → AV → AHeap → R) (t0 t3 t5 t6 t7 t16 t17 t18 t31 t35 t36 : AV) (H : AHeap) : R :=
  guardA t31 false (pO (aNil t36) H fun t37 H =>
  S279_12 call q1 t0 t3 t5 t6 t7 t16 t17 t18 t31 t35 t37 H) (S279_12 call q1 t0 t3 t5 t6 t7 t16 t17 t18 t31 t35 U H)
noncomputable def S279_14 (call : CallFn) (q1 : AV → AV → AV → AV → AV → AV → AHeap → R) (t0 t3 t5 t6 t7 t16 t17 t18 t31 t35 : AV) (H : AHeap) : R :=
  guardA t31 false (S279_13 call q1 t0 t3 t5 t6 t7 t16 t17 t18 t31 t35 t0 H) (S279_13 call q1 t0 t3 t5 t6 t7 t16 t17 t18 t31 t35 U H)
noncomputable def S279_15 (call : CallFn) (q1 : AV → AV → AV → AV → AV → AV → AHeap → R) (t0 t3 t5 t6 t7 t16 t17 t18 t31 t34 : AV) (H : AHeap) : R :=
  guardA t31 false (ldK .none H t34 fun t35 H =>
  S279_14 call q1 t0 t3 t5 t6 t7 t16 t17 t18 t31 t35 H) (S279_14 call q1 t0 t3 t5 t6 t7 t16 t17 t18 t31 U H)
noncomputable def S279_16 (call : CallFn) (q1 : AV → AV → AV → AV → AV → AV → AHeap → R) (t0 t3 t5 t6 t7 t16 t17 t18 t31 t33 : AV) (H : AHeap) : R :=
  guardA t31 false (pFa 15 t33 H fun t34 H =>
  S279_15 call q1 t0 t3 t5 t6 t7 t16 t17 t18 t31 t34 H) (S279_15 call q1 t0 t3 t5 t6 t7 t16 t17 t18 t31 U H)
noncomputable def S279_17 (call : CallFn) (q1 : AV → AV → AV → AV → AV → AV → AHeap → R) (t0 t3 t5 t6 t7 t16 t17 t18 t31 t32 : AV) (H : AHeap) : R :=
  guardA t31 false (pO (aNil t32) H fun t33 H =>
  S279_16 call q1 t0 t3 t5 t6 t7 t16 t17 t18 t31 t33 H) (S279_16 call q1 t0 t3 t5 t6 t7 t16 t17 t18 t31 U H)
noncomputable def S279_18 (call : CallFn) (q1 : AV → AV → AV → AV → AV → AV → AHeap → R) (t0 t3 t5 t6 t7 t16 t17 t18 t26 t29 : AV) (H : AHeap) : R :=
  pPick t26 (.bool true) t29 H fun t30 H =>
  guardA t30 false (S279_17 call q1 t0 t3 t5 t6 t7 t16 t17 t18 t30 t0 H) (S279_17 call q1 t0 t3 t5 t6 t7 t16 t17 t18 t30 U H)
noncomputable def S279_19 (call : CallFn) (q1 : AV → AV → AV → AV → AV → AV → AHeap → R) (t0 t3 t5 t6 t7 t16 t17 t18 t26 t28 : AV) (H : AHeap) : R :=
  guardA t26 false (pGtr t28 (.int .i64 (.ofNat 2)) H fun t29 H =>
  S279_18 call q1 t0 t3 t5 t6 t7 t16 t17 t18 t26 t29 H) (S279_18 call q1 t0 t3 t5 t6 t7 t16 t17 t18 t26 U H)
noncomputable def S279_20 (call : CallFn) (q1 : AV → AV → AV → AV → AV → AV → AHeap → R) (t0 t3 t5 t6 t7 t16 t17 t18 t26 t27 : AV) (H : AHeap) : R :=
  guardA t26 false (ldK .none H t27 fun t28 H =>
  S279_19 call q1 t0 t3 t5 t6 t7 t16 t17 t18 t26 t28 H) (S279_19 call q1 t0 t3 t5 t6 t7 t16 t17 t18 t26 U H)
noncomputable def S279_3 (call : CallFn) (n : Nat) : AV → AV → AV → AV → AV → AV → AHeap → R :=
  Nat.rec (motive := fun _ => AV → AV → AV → AV → AV → AV → AHeap → R) (fun _ _ _ _ _ _ _ => none) (fun _ q1 t0 t3 t5 t16 t17 t18 H => pLss t18 t17 H fun t19 H =>
  onBool t19 (pIa 4 t16 t18 H fun t21 H =>
  ldK (.some 4) H t21 fun t22 H =>
  pNew [(.int .i64 (.ofNat 0)), (.int .i64 (.ofNat 0)), (.int .i64 (.ofNat 0)), (.int .i64 (.ofNat 0))] H fun t7 H =>
  stK 4 H t7 t22 fun _ H =>
  pFa 0 t7 H fun t23 H =>
  ldK .none H t23 fun t24 H =>
  pLss t24 (.int .i64 (.ofNat 0)) H fun t25 H =>
  guardA t25 false (pFa 0 t7 H fun t27 H =>
  S279_20 call q1 t0 t3 t5 t18 t7 t16 t17 t18 t25 t27 H) (S279_20 call q1 t0 t3 t5 t18 t7 t16 t17 t18 t25 U H)) (S279_2 call t0 t3 t5 H)) n
noncomputable def S279_21 (call : CallFn) (t0 : AV) (H : AHeap) : R :=
  pC call 273 [t0] H fun t11 H =>
  pExt t11 0 H fun t12 H =>
  pExt t11 1 H fun t13 H =>
  pO (aUn .not t13) H fun t15 H =>
  onBool t15 (some ((.bool false), H)) (pO (aLen .sl H t12) H fun t17 H =>
  S279_3 call 1000000 t0 t12 (.int .i64 (.ofNat 0)) t12 t17 (.int .i64 (.ofNat 0)) H)
noncomputable def S279 : Ff := ⟨fun call l H => argA1 (fun t0 => S279_21 call t0 H) l⟩
/- (*gantline/verify.checker).is -/
noncomputable def S280_0 (call : CallFn) (t0 t1 t2 : AV) (H : AHeap) : R :=
  pBox t0 H fun t3 H =>
  pBox t1 H fun t4 H =>
  pC call 276 [t2, (.fn 299 [] [t3, t4])] H fun t9 H =>
  pO (aUn .not t9) H fun t10 H =>
  some (t10, H)
noncomputable def S280 : Ff := ⟨fun call l H => argA3 (fun t0 t1 t2 => S280_0 call t0 t1 t2 H) l⟩
/- (*gantline/verify.checker).kinds$1 -/
noncomputable def S281_0 (_ : CallFn) (t7 t13 : AV) (H : AHeap) : R :=
  pPick t7 t13 (.bool false) H fun t14 H =>
  some (t14, H)
noncomputable def S281_1 (call : CallFn) (t0 t1 : AV) (H : AHeap) : R :=
  pBox t0 H fun t2 H =>
  pFa 0 t2 H fun t4 H =>
  ldK .none H t4 fun t5 H =>
  pNeq t5 (.int .i64 (.ofNat 2)) H fun t6 H =>
  guardA t6 true (ldK .none H t1 fun t8 H =>
  pFa 1 t2 H fun t9 H =>
  ldK .none H t9 fun t10 H =>
  pN (aBsl 1 1 [(.int .i64 (.ofNat 0))] [(0, 1, t10)]) H fun t11 H =>
  pC call 280 [t8, (.bool true), t11] H fun t12 H =>
  pO (aUn .not t12) H fun t13 H =>
  S281_0 call t6 t13 H) (S281_0 call t6 U H)
noncomputable def S281 : Ff := ⟨fun call l H => argA2 (fun t0 t1 => S281_1 call t0 t1 H) l⟩
/- (*gantline/verify.checker).calls -/
noncomputable def S282_0 (_ : CallFn) (t36 t49 : AV) (H : AHeap) : R :=
  pPick t36 (.bool true) t49 H fun t50 H =>
  some (t50, H)
noncomputable def S282_1 (call : CallFn) (t36 t40 t48 : AV) (H : AHeap) : R :=
  guardA t36 false (pPick t40 t48 (.bool false) H fun t49 H =>
  S282_0 call t36 t49 H) (S282_0 call t36 U H)
noncomputable def S282_2 (call : CallFn) (t0 t3 t4 t36 t40 : AV) (H : AHeap) : R :=
  guardA t40 true (pFa 3 t4 H fun t42 H =>
  ldK .none H t42 fun t43 H =>
  pEql t43 (.int .i64 (.ofNat 2)) H fun t44 H =>
  pFa 1 t3 H fun t45 H =>
  ldK .none H t45 fun t46 H =>
  pN (aBsl 1 1 [(.int .i64 (.ofNat 0))] [(0, 1, t46)]) H fun t47 H =>
  pC call 280 [t0, t44, t47] H fun t48 H =>
  S282_1 call t36 t40 t48 H) (S282_1 call t36 t40 U H)
noncomputable def S282_3 (_ : CallFn) (t81 t90 : AV) (H : AHeap) : R :=
  pPick t81 t90 (.bool false) H fun t91 H =>
  some (t91, H)
noncomputable def S282_4 (_ : CallFn) (t109 t120 : AV) (H : AHeap) : R :=
  pPick t109 t120 (.bool false) H fun t121 H =>
  some (t121, H)
noncomputable def S282_5 (call : CallFn) (t109 t110 t116 t119 : AV) (H : AHeap) : R :=
  guardA t109 true (pC call 280 [t110, t116, t119] H fun t120 H =>
  S282_4 call t109 t120 H) (S282_4 call t109 U H)
noncomputable def S282_6 (call : CallFn) (t109 t110 t116 t118 : AV) (H : AHeap) : R :=
  guardA t109 true (pN (aBsl 1 1 [(.int .i64 (.ofNat 0))] [(0, 1, t118)]) H fun t119 H =>
  S282_5 call t109 t110 t116 t119 H) (S282_5 call t109 t110 t116 U H)
noncomputable def S282_7 (call : CallFn) (t109 t110 t116 t117 : AV) (H : AHeap) : R :=
  guardA t109 true (ldK .none H t117 fun t118 H =>
  S282_6 call t109 t110 t116 t118 H) (S282_6 call t109 t110 t116 U H)
noncomputable def S282_8 (call : CallFn) (t3 t109 t110 t116 : AV) (H : AHeap) : R :=
  guardA t109 true (pFa 1 t3 H fun t117 H =>
  S282_7 call t109 t110 t116 t117 H) (S282_7 call t109 t110 t116 U H)
noncomputable def S282_9 (call : CallFn) (t3 t109 t110 t115 : AV) (H : AHeap) : R :=
  guardA t109 true (pEql t115 (.int .i64 (.ofNat 2)) H fun t116 H =>
  S282_8 call t3 t109 t110 t116 H) (S282_8 call t3 t109 t110 U H)
noncomputable def S282_10 (call : CallFn) (t3 t109 t110 t114 : AV) (H : AHeap) : R :=
  guardA t109 true (ldK .none H t114 fun t115 H =>
  S282_9 call t3 t109 t110 t115 H) (S282_9 call t3 t109 t110 U H)
noncomputable def S282_11 (call : CallFn) (t3 t109 t110 t113 : AV) (H : AHeap) : R :=
  guardA t109 true (pFa 3 t113 H fun t114 H =>
  S282_10 call t3 t109 t110 t114 H) (S282_10 call t3 t109 t110 U H)
noncomputable def S282_12 (call : CallFn) (t3 t109 t110 t112 : AV) (H : AHeap) : R :=
  guardA t109 true (pFa 6 t112 H fun t113 H =>
  S282_11 call t3 t109 t110 t113 H) (S282_11 call t3 t109 t110 U H)
noncomputable def S282_13 (call : CallFn) (t3 t109 t110 t111 : AV) (H : AHeap) : R :=
  guardA t109 true (pO (aNil t111) H fun t112 H =>
  S282_12 call t3 t109 t110 t112 H) (S282_12 call t3 t109 t110 U H)
noncomputable def S282_14 (call : CallFn) (t0 t3 t109 t110 : AV) (H : AHeap) : R :=
  guardA t109 true (S282_13 call t3 t109 t110 t0 H) (S282_13 call t3 t109 t110 U H)
noncomputable def S282_15 (call : CallFn) (t0 : AV) (H : AHeap) : R :=
  pO (aNil t0) H fun t11 H =>
  pFa 17 t11 H fun t12 H =>
  ldK (.some 5) H t12 fun t13 H =>
  pNew [(.int .i64 (.ofNat 0)), (.int .i64 (.ofNat 0)), (.int .i64 (.ofNat 0)), (.int .i64 (.ofNat 0)), (.int .i64 (.ofNat 0))] H fun t3 H =>
  stK 5 H t3 t13 fun _ H =>
  pFa 0 t3 H fun t14 H =>
  ldK .none H t14 fun t15 H =>
  pEql t15 (.int .i64 (.ofNat 20)) H fun t17 H =>
  onBool t17 (pFa 2 t3 H fun t20 H =>
  ldK .none H t20 fun t21 H =>
  pC call 272 [t0, t21] H fun t22 H =>
  pExt t22 0 H fun t23 H =>
  pExt t22 1 H fun _ H =>
  pNew [(.int .i64 (.ofNat 0)), (.int .i64 (.ofNat 0)), (.int .i64 (.ofNat 0)), (.int .i64 (.ofNat 0)), .nilsl, .nilsl, .nilsl] H fun t4 H =>
  stK 7 H t4 t23 fun _ H =>
  ldK (.some 7) H t4 fun t26 H =>
  pFa 3 t3 H fun t27 H =>
  ldK .none H t27 fun t28 H =>
  pFa 0 t4 H fun t29 H =>
  ldK .none H t29 fun t30 H =>
  pC call 300 [t0, t26, (.int .i64 (.ofNat 0)), t28, t30] H fun t31 H =>
  pO (aUn .not t31) H fun t32 H =>
  onBool t32 (some ((.bool false), H)) (pFa 1 t3 H fun t33 H =>
  ldK .none H t33 fun t34 H =>
  pEql t34 (.int .i64 (.negSucc 0)) H fun t35 H =>
  guardA t35 false (pFa 3 t4 H fun t37 H =>
  ldK .none H t37 fun t38 H =>
  pGtr t38 (.int .i64 (.ofNat 0)) H fun t39 H =>
  S282_2 call t0 t3 t4 t35 t39 H) (S282_2 call t0 t3 t4 t35 U H))) (pEql t15 (.int .i64 (.ofNat 23)) H fun t52 H =>
  onBool t52 (pFa 1 t3 H fun t55 H =>
  ldK .none H t55 fun t56 H =>
  pC call 272 [t0, t56] H fun t57 H =>
  pExt t57 0 H fun t58 H =>
  pExt t57 1 H fun _ H =>
  pNew [(.int .i64 (.ofNat 0)), (.int .i64 (.ofNat 0)), (.int .i64 (.ofNat 0)), (.int .i64 (.ofNat 0)), .nilsl, .nilsl, .nilsl] H fun t6 H =>
  stK 7 H t6 t58 fun _ H =>
  ldK (.some 7) H t6 fun t61 H =>
  pFa 2 t3 H fun t62 H =>
  ldK .none H t62 fun t63 H =>
  pFa 0 t6 H fun t64 H =>
  ldK .none H t64 fun t65 H =>
  pC call 300 [t0, t61, (.int .i64 (.ofNat 0)), t63, t65] H fun t66 H =>
  some (t66, H)) (pEql t15 (.int .i64 (.ofNat 36)) H fun t68 H =>
  onBool t68 (pFa 2 t3 H fun t71 H =>
  ldK .none H t71 fun t72 H =>
  pC call 272 [t0, t72] H fun t73 H =>
  pExt t73 0 H fun t74 H =>
  pExt t73 1 H fun _ H =>
  pNew [(.int .i64 (.ofNat 0)), (.int .i64 (.ofNat 0)), (.int .i64 (.ofNat 0)), (.int .i64 (.ofNat 0)), .nilsl, .nilsl, .nilsl] H fun t8 H =>
  stK 7 H t8 t74 fun _ H =>
  pFa 1 t3 H fun t77 H =>
  ldK .none H t77 fun t78 H =>
  pN (aBsl 1 1 [(.int .i64 (.ofNat 0))] [(0, 1, t78)]) H fun t79 H =>
  pC call 280 [t0, (.bool true), t79] H fun t80 H =>
  guardA t80 true (ldK (.some 7) H t8 fun t83 H =>
  pFa 0 t8 H fun t84 H =>
  ldK .none H t84 fun t85 H =>
  pFa 3 t3 H fun t86 H =>
  ldK .none H t86 fun t87 H =>
  pFa 1 t8 H fun t88 H =>
  ldK .none H t88 fun t89 H =>
  pC call 300 [t0, t83, t85, t87, t89] H fun t90 H =>
  S282_3 call t80 t90 H) (S282_3 call t80 U H)) (pEql t15 (.int .i64 (.ofNat 22)) H fun t93 H =>
  onBool t93 (pFa 1 t3 H fun t94 H =>
  ldK .none H t94 fun t95 H =>
  pEql t95 (.int .i64 (.negSucc 0)) H fun t96 H =>
  onBool t96 (pO (aNil t0) H fun t98 H =>
  pFa 6 t98 H fun t99 H =>
  pFa 3 t99 H fun t100 H =>
  ldK .none H t100 fun t101 H =>
  pEql t101 (.int .i64 (.ofNat 0)) H fun t102 H =>
  some (t102, H)) (pO (aNil t0) H fun t104 H =>
  pFa 6 t104 H fun t105 H =>
  pFa 3 t105 H fun t106 H =>
  ldK .none H t106 fun t107 H =>
  pGtr t107 (.int .i64 (.ofNat 0)) H fun t108 H =>
  guardA t108 true (S282_14 call t0 t3 t108 t0 H) (S282_14 call t0 t3 t108 U H))) (some ((.bool true), H)))))
noncomputable def S282 : Ff := ⟨fun call l H => argA1 (fun t0 => S282_15 call t0 H) l⟩
/- (*gantline/verify.checker).targets -/
noncomputable def S283_0 (_ : CallFn) (n : Nat) : AV → AV → AV → AV → AHeap → R :=
  Nat.rec (motive := fun _ => AV → AV → AV → AV → AHeap → R) (fun _ _ _ _ _ => none) (fun _ q0 t3 t36 t37 t38 H => pLss t38 t37 H fun t39 H =>
  onBool t39 (pIa 4 t36 t38 H fun t40 H =>
  ldK (.some 4) H t40 fun t41 H =>
  pNew [(.int .i64 (.ofNat 0)), (.int .i64 (.ofNat 0)), (.int .i64 (.ofNat 0)), (.int .i64 (.ofNat 0))] H fun t7 H =>
  stK 4 H t7 t41 fun _ H =>
  pFa 3 t7 H fun t43 H =>
  ldK .none H t43 fun t44 H =>
  pN (aBsl 1 1 [(.int .i64 (.ofNat 0))] [(0, 1, t44)]) H fun t45 H =>
  pW (aApp 1 8 H t3 t45) fun t46 H =>
  pAdd t38 (.int .i64 (.ofNat 1)) H fun t47 H =>
  q0 t46 t36 t37 t47 H) (some (t3, H))) n
noncomputable def S283_1 (call : CallFn) (t0 : AV) (H : AHeap) : R :=
  pO (aNil t0) H fun t9 H =>
  pFa 17 t9 H fun t10 H =>
  pFa 0 t10 H fun t11 H =>
  ldK .none H t11 fun t12 H =>
  pEql t12 (.int .i64 (.ofNat 18)) H fun t14 H =>
  onBool t14 (pO (aNil t0) H fun t16 H =>
  pFa 17 t16 H fun t17 H =>
  pFa 1 t17 H fun t18 H =>
  ldK .none H t18 fun t19 H =>
  pN (aBsl 1 1 [(.int .i64 (.ofNat 0))] [(0, 1, t19)]) H fun t20 H =>
  some (t20, H)) (pEql t12 (.int .i64 (.ofNat 19)) H fun t22 H =>
  onBool t22 (pO (aNil t0) H fun t24 H =>
  pFa 17 t24 H fun t25 H =>
  pFa 2 t25 H fun t26 H =>
  ldK .none H t26 fun t27 H =>
  pN (aBsl 1 1 [(.int .i64 (.ofNat 0))] [(0, 1, t27)]) H fun t28 H =>
  some (t28, H)) (pEql t12 (.int .i64 (.ofNat 41)) H fun t30 H =>
  onBool t30 (pC call 273 [t0] H fun t33 H =>
  pExt t33 0 H fun t34 H =>
  pExt t33 1 H fun _ H =>
  pO (aLen .sl H t34) H fun t37 H =>
  S283_0 call 1000000 .nilsl t34 t37 (.int .i64 (.ofNat 0)) H) (some (.nilsl, H))))
noncomputable def S283 : Ff := ⟨fun call l H => argA1 (fun t0 => S283_1 call t0 H) l⟩
/- (*gantline/arena.Arena).word -/
noncomputable def S287_0 (_ : CallFn) (t0 t1 t2 t21 t28 : AV) (H : AHeap) : R :=
  pPick t21 (.bool true) t28 H fun t29 H =>
  onBool t29 (some (.nilp, H)) (pO (aNil t0) H fun t31 H =>
  pFa 0 t31 H fun t32 H =>
  ldK .none H t32 fun t33 H =>
  pAdd t1 t2 H fun t36 H =>
  pIa 1 t33 t36 H fun t37 H =>
  some (t37, H))
noncomputable def S287_1 (call : CallFn) (t0 t1 t2 t7 t17 t19 : AV) (H : AHeap) : R :=
  pPick t17 (.bool true) t19 H fun t20 H =>
  guardA t20 false (pO (aNil t7) H fun t24 H =>
  pFa 0 t24 H fun t25 H =>
  ldK .none H t25 fun t26 H =>
  pC call 160 [t26] H fun t27 H =>
  pGeq t2 t27 H fun t28 H =>
  S287_0 call t0 t1 t2 t20 t28 H) (S287_0 call t0 t1 t2 t20 U H)
noncomputable def S287_2 (call : CallFn) (t0 t1 t2 : AV) (H : AHeap) : R :=
  pC call 290 [t0, t1] H fun t12 H =>
  pExt t12 0 H fun t13 H =>
  pExt t12 1 H fun _ H =>
  pO (aEq false .ptr t13 .nilp) H fun t16 H =>
  guardA t16 false (pLss t2 (.int .i64 (.ofNat 0)) H fun t19 H =>
  S287_1 call t0 t1 t2 t13 t16 t19 H) (S287_1 call t0 t1 t2 t13 t16 U H)
noncomputable def S287 : Ff := ⟨fun call l H => argA3 (fun t0 t1 t2 => S287_2 call t0 t1 t2 H) l⟩
/- gantline/bits.Field -/
noncomputable def S288_0 (call : CallFn) (t0 t1 t2 : AV) (H : AHeap) : R :=
  pC call 294 [t1, t2] H fun t9 H =>
  pO (aUn .not t9) H fun t10 H =>
  onBool t10 (some ((.int .u64 (.ofNat 0)), H)) (pConv .u64 t1 H fun t13 H =>
  pO (aBin .shr t0 t13) H fun t14 H =>
  pC call 295 [t2] H fun t16 H =>
  pAnd t14 t16 H fun t17 H =>
  some (t17, H))
noncomputable def S288 : Ff := ⟨fun call l H => argA3 (fun t0 t1 t2 => S288_0 call t0 t1 t2 H) l⟩
/- gantline/head.may -/
noncomputable def S289_0 (_ : CallFn) (t26 t29 : AV) (H : AHeap) : R :=
  pPick t26 t29 (.bool false) H fun t30 H =>
  some (t30, H)
noncomputable def S289_1 (call : CallFn) (t1 t21 t24 : AV) (H : AHeap) : R :=
  pPick t21 t24 (.bool false) H fun t25 H =>
  guardA t25 true (pFa 2 t1 H fun t27 H =>
  ldK .none H t27 fun t28 H =>
  pLss t28 (.int .i64 (.ofNat 65536)) H fun t29 H =>
  S289_0 call t25 t29 H) (S289_0 call t25 U H)
noncomputable def S289_2 (call : CallFn) (t1 t16 t19 : AV) (H : AHeap) : R :=
  pPick t16 t19 (.bool false) H fun t20 H =>
  guardA t20 true (pFa 2 t1 H fun t22 H =>
  ldK .none H t22 fun t23 H =>
  pGeq t23 (.int .i64 (.ofNat 0)) H fun t24 H =>
  S289_1 call t1 t20 t24 H) (S289_1 call t1 t20 U H)
noncomputable def S289_3 (call : CallFn) (t1 t11 t14 : AV) (H : AHeap) : R :=
  pPick t11 t14 (.bool false) H fun t15 H =>
  guardA t15 true (pFa 1 t1 H fun t17 H =>
  ldK .none H t17 fun t18 H =>
  pLeq t18 (.int .i64 (.ofNat 3)) H fun t19 H =>
  S289_2 call t1 t15 t19 H) (S289_2 call t1 t15 U H)
noncomputable def S289_4 (call : CallFn) (t1 t6 t9 : AV) (H : AHeap) : R :=
  pPick t6 t9 (.bool false) H fun t10 H =>
  guardA t10 true (pFa 1 t1 H fun t12 H =>
  ldK .none H t12 fun t13 H =>
  pGeq t13 (.int .i64 (.ofNat 0)) H fun t14 H =>
  S289_3 call t1 t10 t14 H) (S289_3 call t1 t10 U H)
noncomputable def S289_5 (call : CallFn) (t0 : AV) (H : AHeap) : R :=
  pBox t0 H fun t1 H =>
  pFa 0 t1 H fun t3 H =>
  ldK .none H t3 fun t4 H =>
  pGeq t4 (.int .i64 (.ofNat 1)) H fun t5 H =>
  guardA t5 true (pFa 0 t1 H fun t7 H =>
  ldK .none H t7 fun t8 H =>
  pLeq t8 (.int .i64 (.ofNat 64)) H fun t9 H =>
  S289_4 call t1 t5 t9 H) (S289_4 call t1 t5 U H)
noncomputable def S289 : Ff := ⟨fun call l H => argA1 (fun t0 => S289_5 call t0 H) l⟩
/- (*gantline/arena.Arena).find -/
noncomputable def S290_0 (_ : CallFn) (t0 t6 t8 t19 t32 : AV) (H : AHeap) : R :=
  pPick t19 (.bool true) t32 H fun t33 H =>
  onBool t33 (some (.tup [.nilp, (.int .u64 (.ofNat 0))], H)) (pO (aNil t0) H fun t35 H =>
  pFa 1 t35 H fun t36 H =>
  ldK .none H t36 fun t37 H =>
  pIa 3 t37 t6 H fun t39 H =>
  pConv .u64 t8 H fun t41 H =>
  pO (aBin .shl (.int .u64 (.ofNat 1)) t41) H fun t42 H =>
  some (.tup [t39, t42], H))
noncomputable def S290_1 (call : CallFn) (t0 t1 : AV) (H : AHeap) : R :=
  pC call 221 [t1] H fun t10 H =>
  pC call 156 [t0, t10] H fun t13 H =>
  pC call 309 [t1, t13] H fun t16 H =>
  pLss t16 (.int .i64 (.ofNat 0)) H fun t18 H =>
  guardA t18 false (pO (aNil t0) H fun t21 H =>
  pFa 1 t21 H fun t22 H =>
  ldK .none H t22 fun t23 H =>
  pIa 3 t23 t10 H fun t25 H =>
  pFa 1 t25 H fun t26 H =>
  ldK .none H t26 fun t27 H =>
  pConv .u64 t16 H fun t29 H =>
  pO (aBin .shr t27 t29) H fun t30 H =>
  pAnd t30 (.int .u64 (.ofNat 1)) H fun t31 H =>
  pEql t31 (.int .u64 (.ofNat 0)) H fun t32 H =>
  S290_0 call t0 t10 t16 t18 t32 H) (S290_0 call t0 t10 t16 t18 U H)
noncomputable def S290 : Ff := ⟨fun call l H => argA2 (fun t0 t1 => S290_1 call t0 t1 H) l⟩
/- (*gantline/cycle.Cycle).Phase -/
noncomputable def S291_0 (_ : CallFn) (t0 : AV) (H : AHeap) : R :=
  pO (aNil t0) H fun t4 H =>
  pFa 4 t4 H fun t5 H =>
  ldK .none H t5 fun t6 H =>
  some (t6, H)
noncomputable def S291 : Ff := ⟨fun call l H => argA1 (fun t0 => S291_0 call t0 H) l⟩
/- (*gantline/cycle.Cycle).Marker -/
noncomputable def S292_0 (_ : CallFn) (t0 : AV) (H : AHeap) : R :=
  pO (aNil t0) H fun t4 H =>
  pFa 3 t4 H fun t5 H =>
  ldK .none H t5 fun t6 H =>
  some (t6, H)
noncomputable def S292 : Ff := ⟨fun call l H => argA1 (fun t0 => S292_0 call t0 H) l⟩
/- (*gantline/alloc.Alloc).Take -/
noncomputable def S293_1 (_ : CallFn) (q0 : AV → AV → AV → AV → AV → AHeap → R) (t0 t6 t94 t95 t96 : AV) (H : AHeap) : R :=
  pAdd t96 (.int .i64 (.ofNat 1)) H fun t118 H =>
  q0 t0 t6 t94 t95 t118 H
noncomputable def S293_0 (call : CallFn) (n : Nat) : AV → AV → AV → AV → AV → AHeap → R :=
  Nat.rec (motive := fun _ => AV → AV → AV → AV → AV → AHeap → R) (fun _ _ _ _ _ _ => none) (fun _ q0 t0 t6 t94 t95 t96 H => pLss t96 t95 H fun t97 H =>
  onBool t97 (pIa 1 t94 t96 H fun t99 H =>
  ldK .none H t99 fun t100 H =>
  onBool t100 (pC call 157 [t0, t96] H fun _ H =>
  pO (aNil t0) H fun t106 H =>
  pFa 0 t106 H fun t107 H =>
  ldK .none H t107 fun t108 H =>
  pC call 156 [t108, t96] H fun t110 H =>
  pEql t110 (.int .i64 (.negSucc 0)) H fun t111 H =>
  onBool t111 (pC call 313 [t0, t96, t6] H fun t115 H =>
  pExt t115 0 H fun t116 H =>
  pExt t115 1 H fun t117 H =>
  some (.tup [t116, t117], H)) (S293_1 call q0 t0 t6 t94 t95 t96 H)) (S293_1 call q0 t0 t6 t94 t95 t96 H)) (some (.tup [(.int .i64 (.ofNat 0)), (.int .i64 (.ofNat 5))], H))) n
noncomputable def S293_2 (call : CallFn) (t0 t6 : AV) (H : AHeap) : R :=
  pO (aNil t0) H fun t92 H =>
  pFa 1 t92 H fun t93 H =>
  ldK .none H t93 fun t94 H =>
  pO (aLen .sl H t94) H fun t95 H =>
  S293_0 call 1000000 t0 t6 t94 t95 (.int .i64 (.ofNat 0)) H
noncomputable def S293_3 (call : CallFn) (n : Nat) : AV → AV → AV → AHeap → R :=
  Nat.rec (motive := fun _ => AV → AV → AV → AHeap → R) (fun _ _ _ _ => none) (fun _ q1 t0 t6 t8 H => pO (aNil t0) H fun t71 H =>
  pFa 1 t71 H fun t72 H =>
  ldK .none H t72 fun t73 H =>
  pO (aLen .sl H t73) H fun t74 H =>
  pLss t8 t74 H fun t75 H =>
  onBool t75 (pO (aNil t0) H fun t79 H =>
  pFa 0 t79 H fun t80 H =>
  ldK .none H t80 fun t81 H =>
  pC call 156 [t81, t8] H fun t83 H =>
  pEql t83 (.int .i64 (.negSucc 0)) H fun t84 H =>
  onBool t84 (pC call 313 [t0, t8, t6] H fun t88 H =>
  pExt t88 0 H fun t89 H =>
  pExt t88 1 H fun t90 H =>
  some (.tup [t89, t90], H)) (pAdd t8 (.int .i64 (.ofNat 1)) H fun t77 H =>
  q1 t0 t6 t77 H)) (S293_2 call t0 t6 H)) n
noncomputable def S293_5 (_ : CallFn) (q2 : AV → AV → AV → AV → AHeap → R) (t0 t6 t19 t20 : AV) (H : AHeap) : R :=
  pAdd t20 (.int .i64 (.ofNat 1)) H fun t68 H =>
  q2 t0 t6 t19 t68 H
noncomputable def S293_6 (call : CallFn) (q2 : AV → AV → AV → AV → AHeap → R) (t0 t6 t7 t19 t20 t49 t58 : AV) (H : AHeap) : R :=
  pPick t49 t58 (.bool false) H fun t59 H =>
  onBool t59 (pO (aNil t0) H fun t61 H =>
  pFa 0 t61 H fun t62 H =>
  ldK .none H t62 fun t63 H =>
  pC call 312 [t63, t7] H fun t65 H =>
  pExt t65 0 H fun t66 H =>
  pExt t65 1 H fun t67 H =>
  some (.tup [t66, t67], H)) (S293_5 call q2 t0 t6 t19 t20 H)
noncomputable def S293_7 (call : CallFn) (q2 : AV → AV → AV → AV → AHeap → R) (t0 t6 t7 t19 t20 : AV) (H : AHeap) : R :=
  pO (aNil t0) H fun t42 H =>
  pFa 0 t42 H fun t43 H =>
  ldK .none H t43 fun t44 H =>
  pC call 156 [t44, t7] H fun t46 H =>
  pEql t46 t6 H fun t48 H =>
  guardA t48 true (pO (aNil t0) H fun t51 H =>
  pFa 0 t51 H fun t52 H =>
  ldK .none H t52 fun t53 H =>
  pC call 159 [t53, t7] H fun t55 H =>
  pC call 311 [t6] H fun t57 H =>
  pNeq t55 t57 H fun t58 H =>
  S293_6 call q2 t0 t6 t7 t19 t20 t48 t58 H) (S293_6 call q2 t0 t6 t7 t19 t20 t48 U H)
noncomputable def S293_4 (call : CallFn) (n : Nat) : AV → AV → AV → AV → AHeap → R :=
  Nat.rec (motive := fun _ => AV → AV → AV → AV → AHeap → R) (fun _ _ _ _ _ => none) (fun _ q2 t0 t6 t19 t20 H => pLss t20 t19 H fun t21 H =>
  onBool t21 (pO (aNil t0) H fun t24 H =>
  pFa 0 t24 H fun t25 H =>
  ldK .none H t25 fun t26 H =>
  pC call 156 [t26, t20] H fun t28 H =>
  pNeq t28 t6 H fun t30 H =>
  onBool t30 (S293_5 call q2 t0 t6 t19 t20 H) (pO (aNil t0) H fun t32 H =>
  pFa 1 t32 H fun t33 H =>
  ldK .none H t33 fun t34 H =>
  pIa 1 t34 t20 H fun t36 H =>
  ldK .none H t36 fun t37 H =>
  onBool t37 (pC call 157 [t0, t20] H fun _ H =>
  S293_7 call q2 t0 t6 t20 t19 t20 H) (S293_7 call q2 t0 t6 t20 t19 t20 H))) (S293_3 call 1000000 t0 t6 (.int .i64 (.ofNat 1)) H)) n
noncomputable def S293_8 (call : CallFn) (t0 t1 : AV) (H : AHeap) : R :=
  pC call 310 [t1] H fun t12 H =>
  pEql t12 (.int .i64 (.negSucc 0)) H fun t14 H =>
  onBool t14 (some (.tup [(.int .i64 (.ofNat 0)), (.int .i64 (.ofNat 1))], H)) (pO (aNil t0) H fun t16 H =>
  pFa 1 t16 H fun t17 H =>
  ldK .none H t17 fun t18 H =>
  pO (aLen .sl H t18) H fun t19 H =>
  S293_4 call 1000000 t0 t12 t19 (.int .i64 (.ofNat 0)) H)
noncomputable def S293 : Ff := ⟨fun call l H => argA2 (fun t0 t1 => S293_8 call t0 t1 H) l⟩
/- gantline/bits.within -/
noncomputable def S294_0 (_ : CallFn) (t15 t19 : AV) (H : AHeap) : R :=
  pPick t15 t19 (.bool false) H fun t20 H =>
  some (t20, H)
noncomputable def S294_1 (call : CallFn) (t0 t1 t11 t13 : AV) (H : AHeap) : R :=
  pPick t11 t13 (.bool false) H fun t14 H =>
  guardA t14 true (pSub (.int .i64 (.ofNat 64)) t1 H fun t18 H =>
  pLeq t0 t18 H fun t19 H =>
  S294_0 call t14 t19 H) (S294_0 call t14 U H)
noncomputable def S294_2 (call : CallFn) (t0 t1 t7 t9 : AV) (H : AHeap) : R :=
  pPick t7 t9 (.bool false) H fun t10 H =>
  guardA t10 true (pLeq t1 (.int .i64 (.ofNat 64)) H fun t13 H =>
  S294_1 call t0 t1 t10 t13 H) (S294_1 call t0 t1 t10 U H)
noncomputable def S294_3 (call : CallFn) (t0 t1 : AV) (H : AHeap) : R :=
  pGeq t0 (.int .i64 (.ofNat 0)) H fun t6 H =>
  guardA t6 true (pGeq t1 (.int .i64 (.ofNat 0)) H fun t9 H =>
  S294_2 call t0 t1 t6 t9 H) (S294_2 call t0 t1 t6 U H)
noncomputable def S294 : Ff := ⟨fun call l H => argA2 (fun t0 t1 => S294_3 call t0 t1 H) l⟩
/- gantline/bits.mask -/
noncomputable def S295_0 (_ : CallFn) (t0 : AV) (H : AHeap) : R :=
  pConv .u64 t0 H fun t4 H =>
  pO (aBin .shl (.int .u64 (.ofNat 1)) t4) H fun t5 H =>
  pSub t5 (.int .u64 (.ofNat 1)) H fun t6 H =>
  some (t6, H)
noncomputable def S295 : Ff := ⟨fun call l H => argA1 (fun t0 => S295_0 call t0 H) l⟩
/- slices.IndexFunc[[]gantline/code.Case,gantline/code.Case] -/
noncomputable def S298_0 (call : CallFn) (n : Nat) : AV → AV → AV → AV → AHeap → R :=
  Nat.rec (motive := fun _ => AV → AV → AV → AV → AHeap → R) (fun _ _ _ _ _ => none) (fun _ q0 t0 t1 t7 t8 H => pLss t8 t7 H fun t9 H =>
  onBool t9 (pIa 4 t0 t8 H fun t14 H =>
  ldK (.some 4) H t14 fun t15 H =>
  pV call t1 [t15] H fun t16 H =>
  onBool t16 (some (t8, H)) (pAdd t8 (.int .i64 (.ofNat 1)) H fun t18 H =>
  q0 t0 t1 t7 t18 H)) (some ((.int .i64 (.negSucc 0)), H))) n
noncomputable def S298_1 (call : CallFn) (t0 t1 : AV) (H : AHeap) : R :=
  pO (aLen .sl H t0) H fun t7 H =>
  S298_0 call 1000000 t0 t1 t7 (.int .i64 (.ofNat 0)) H
noncomputable def S298 : Ff := ⟨fun call l H => argA2 (fun t0 t1 => S298_1 call t0 t1 H) l⟩
/- (*gantline/verify.checker).is$1 -/
noncomputable def S299_0 (_ : CallFn) (t0 t1 t2 : AV) (H : AHeap) : R :=
  ldK .none H t1 fun t5 H =>
  pO (aNil t5) H fun t6 H =>
  pFa 6 t6 H fun t7 H =>
  pFa 4 t7 H fun t8 H =>
  ldK .none H t8 fun t9 H =>
  pIa 1 t9 t0 H fun t11 H =>
  ldK .none H t11 fun t12 H =>
  ldK .none H t2 fun t13 H =>
  pO (aEq true .bool t12 t13) H fun t14 H =>
  some (t14, H)
noncomputable def S299 : Ff := ⟨fun call l H => argA3 (fun t0 t1 t2 => S299_0 call t0 t1 t2 H) l⟩
/- (*gantline/verify.checker).args -/
noncomputable def S300_0 (_ : CallFn) (n : Nat) : AV → AV → AV → AV → AV → AV → AHeap → R :=
  Nat.rec (motive := fun _ => AV → AV → AV → AV → AV → AV → AHeap → R) (fun _ _ _ _ _ _ _ => none) (fun _ q0 t0 t2 t3 t6 t12 t13 H => pLss t13 t12 H fun t14 H =>
  onBool t14 (pO (aNil t0) H fun t17 H =>
  pFa 6 t17 H fun t18 H =>
  pFa 4 t18 H fun t19 H =>
  ldK .none H t19 fun t20 H =>
  pAdd t3 t13 H fun t23 H =>
  pIa 1 t20 t23 H fun t24 H =>
  ldK .none H t24 fun t25 H =>
  pFa 4 t6 H fun t26 H =>
  ldK .none H t26 fun t27 H =>
  pAdd t2 t13 H fun t30 H =>
  pIa 1 t27 t30 H fun t31 H =>
  ldK .none H t31 fun t32 H =>
  pO (aEq true .bool t25 t32) H fun t33 H =>
  onBool t33 (some ((.bool false), H)) (pAdd t13 (.int .i64 (.ofNat 1)) H fun t34 H =>
  q0 t0 t2 t3 t6 t12 t34 H)) (some ((.bool true), H))) n
noncomputable def S300_1 (call : CallFn) (t0 t1 t2 t3 t4 : AV) (H : AHeap) : R :=
  pBox t1 H fun t6 H =>
  S300_0 call 1000000 t0 t2 t3 t6 t4 (.int .i64 (.ofNat 0)) H
noncomputable def S300 : Ff := ⟨fun call l H => argA5 (fun t0 t1 t2 t3 t4 => S300_1 call t0 t1 t2 t3 t4 H) l⟩
/- gantline/geom.Place -/
noncomputable def S309_0 (call : CallFn) (t0 t1 t9 t12 : AV) (H : AHeap) : R :=
  pPick t9 (.bool true) t12 H fun t13 H =>
  onBool t13 (some ((.int .i64 (.negSucc 0)), H)) (pO (aBin .rem t0 (.int .i64 (.ofNat 64))) H fun t15 H =>
  pC call 160 [t1] H fun t18 H =>
  pO (aBin .rem t15 t18) H fun t19 H =>
  pNeq t19 (.int .i64 (.ofNat 0)) H fun t20 H =>
  onBool t20 (some ((.int .i64 (.negSucc 0)), H)) (pC call 160 [t1] H fun t23 H =>
  pO (aBin .quo t15 t23) H fun t24 H =>
  some (t24, H)))
noncomputable def S309_1 (call : CallFn) (t0 t1 : AV) (H : AHeap) : R :=
  pC call 160 [t1] H fun t7 H =>
  pEql t7 (.int .i64 (.ofNat 0)) H fun t8 H =>
  guardA t8 false (pC call 221 [t0] H fun t11 H =>
  pEql t11 (.int .i64 (.negSucc 0)) H fun t12 H =>
  S309_0 call t0 t1 t8 t12 H) (S309_0 call t0 t1 t8 U H)
noncomputable def S309 : Ff := ⟨fun call l H => argA2 (fun t0 t1 => S309_1 call t0 t1 H) l⟩
/- gantline/geom.Class -/
noncomputable def S310_1 (_ : CallFn) (q0 : AV → AV → AHeap → R) (t0 t3 t4 t9 t13 : AV) (H : AHeap) : R :=
  pPick t9 t13 (.bool false) H fun t14 H =>
  onBool t14 (some (t3, H)) (pAdd t4 (.int .i64 (.ofNat 1)) H fun t16 H =>
  q0 t0 t16 H)
noncomputable def S310_0 (call : CallFn) (n : Nat) : AV → AV → AHeap → R :=
  Nat.rec (motive := fun _ => AV → AV → AHeap → R) (fun _ _ _ => none) (fun _ q0 t0 t4 H => pLss t4 (.int .i64 (.ofNat 6)) H fun t5 H =>
  onBool t5 (pGeq t0 (.int .i64 (.ofNat 1)) H fun t8 H =>
  guardA t8 true (pC call 160 [t4] H fun t12 H =>
  pLeq t0 t12 H fun t13 H =>
  S310_1 call q0 t0 t4 t4 t8 t13 H) (S310_1 call q0 t0 t4 t4 t8 U H)) (some ((.int .i64 (.negSucc 0)), H))) n
noncomputable def S310 : Ff := ⟨fun call l H => argA1 (fun t0 => S310_0 call 1000000 t0 (.int .i64 (.ofNat 0)) H) l⟩
/- gantline/geom.Full -/
noncomputable def S311_0 (call : CallFn) (t0 : AV) (H : AHeap) : R :=
  pC call 320 [t0] H fun t4 H =>
  pC call 249 [(.int .u64 (.ofNat 0)), (.int .i64 (.ofNat 0)), t4, (.int .u64 (.ofNat 18446744073709551615))] H fun t5 H =>
  some (t5, H)
noncomputable def S311 : Ff := ⟨fun call l H => argA1 (fun t0 => S311_0 call t0 H) l⟩
/- (*gantline/arena.Arena).Take -/
noncomputable def S312_0 (call : CallFn) (t0 t1 : AV) (H : AHeap) : R :=
  pC call 156 [t0, t1] H fun t12 H =>
  pEql t12 (.int .i64 (.negSucc 0)) H fun t14 H =>
  onBool t14 (some (.tup [(.int .i64 (.ofNat 0)), (.int .i64 (.ofNat 4))], H)) (pO (aNil t0) H fun t16 H =>
  pFa 1 t16 H fun t17 H =>
  ldK .none H t17 fun t18 H =>
  pIa 3 t18 t1 H fun t20 H =>
  pO (aNil t20) H fun t22 H =>
  pFa 1 t22 H fun t23 H =>
  ldK .none H t23 fun t24 H =>
  pC call 321 [t24] H fun t25 H =>
  pC call 320 [t12] H fun t28 H =>
  pGeq t25 t28 H fun t29 H =>
  onBool t29 (some (.tup [(.int .i64 (.ofNat 0)), (.int .i64 (.ofNat 5))], H)) (pO (aNil t20) H fun t31 H =>
  pFa 1 t31 H fun t32 H =>
  ldK .none H t32 fun t33 H =>
  pConv .u64 t25 H fun t35 H =>
  pO (aBin .shl (.int .u64 (.ofNat 1)) t35) H fun t36 H =>
  pOr t33 t36 H fun t37 H =>
  pO (aNil t20) H fun t38 H =>
  pFa 1 t38 H fun t39 H =>
  stK 1 H t39 t37 fun _ H =>
  pO (aNil t20) H fun t41 H =>
  pFa 2 t41 H fun t42 H =>
  ldK .none H t42 fun t43 H =>
  pConv .u64 t25 H fun t45 H =>
  pO (aBin .shl (.int .u64 (.ofNat 1)) t45) H fun t46 H =>
  pAndN t43 t46 H fun t47 H =>
  pO (aNil t20) H fun t48 H =>
  pFa 2 t48 H fun t49 H =>
  stK 1 H t49 t47 fun _ H =>
  pC call 322 [t1, t25, t12] H fun t53 H =>
  pO (aNil t0) H fun t55 H =>
  pFa 0 t55 H fun t56 H =>
  ldK .none H t56 fun t57 H =>
  pC call 160 [t12] H fun t61 H =>
  andR (andB (ckV (aLoad .none H t56) t57) true) (
  pAdd t53 t61 H fun t62 H =>
  pO (aSlice 1 H t57 (.some t53) (.some t62) .none) H fun t63 H =>
  pW (unitW (aClearS [(.int .i64 (.ofNat 0))] H t63)) fun _ H =>
  some (.tup [t53, (.int .i64 (.ofNat 0))], H))))
noncomputable def S312 : Ff := ⟨fun call l H => argA2 (fun t0 t1 => S312_0 call t0 t1 H) l⟩
end Go.Proofs.YtlmmhkcimjjakaaGreatDoor
