/- Plain functions, printed: part 4. -/
import Derived.Test.YtlmmhkcimjjakaaGreatDoorAdE
import Derived.Test.YtlmmhkcimjjakaaGreatDoorProg
import Derived.KernelRfl
namespace Go.Proofs.YtlmmhkcimjjakaaGreatDoor
open Go.Ab
set_option maxRecDepth 100000
/- (*gantline/alloc.Alloc).begin -/
noncomputable def S313_0 (call : CallFn) (t0 t1 t2 : AV) (H : AHeap) : R :=
  pO (aNil t0) H fun t9 H =>
  pFa 1 t9 H fun t10 H =>
  ldK .none H t10 fun t11 H =>
  pIa 1 t11 t1 H fun t13 H =>
  stK 1 H t13 (.bool false) fun _ H =>
  pO (aNil t0) H fun t15 H =>
  pFa 0 t15 H fun t16 H =>
  ldK .none H t16 fun t17 H =>
  pC call 323 [t17, t1, t2] H fun _ H =>
  pO (aNil t0) H fun t22 H =>
  pFa 0 t22 H fun t23 H =>
  ldK .none H t23 fun t24 H =>
  pC call 312 [t24, t1] H fun t26 H =>
  pExt t26 0 H fun t27 H =>
  pExt t26 1 H fun t28 H =>
  some (.tup [t27, t28], H)
noncomputable def S313 : Ff := ⟨fun call l H => argA3 (fun t0 t1 t2 => S313_0 call t0 t1 t2 H) l⟩
/- gantline/geom.Places -/
noncomputable def S320_0 (call : CallFn) (t0 : AV) (H : AHeap) : R :=
  pC call 160 [t0] H fun t4 H =>
  pEql t4 (.int .i64 (.ofNat 0)) H fun t5 H =>
  onBool t5 (some ((.int .i64 (.ofNat 0)), H)) (pC call 160 [t0] H fun t7 H =>
  pO (aBin .quo (.int .i64 (.ofNat 64)) t7) H fun t8 H =>
  some (t8, H))
noncomputable def S320 : Ff := ⟨fun call l H => argA1 (fun t0 => S320_0 call t0 H) l⟩
/- gantline/bits.First -/
noncomputable def S321_0 (call : CallFn) (t0 : AV) (H : AHeap) : R :=
  pO (aUn .xor t0) H fun t4 H =>
  pC call 324 [t4] H fun t5 H =>
  some (t5, H)
noncomputable def S321 : Ff := ⟨fun call l H => argA1 (fun t0 => S321_0 call t0 H) l⟩
/- gantline/geom.Addr -/
noncomputable def S322_0 (call : CallFn) (t0 t1 t2 t17 t21 : AV) (H : AHeap) : R :=
  pPick t17 (.bool true) t21 H fun t22 H =>
  onBool t22 (some ((.int .i64 (.ofNat 0)), H)) (pMul t0 (.int .i64 (.ofNat 64)) H fun t24 H =>
  pC call 160 [t2] H fun t27 H =>
  pMul t1 t27 H fun t28 H =>
  pAdd t24 t28 H fun t29 H =>
  some (t29, H))
noncomputable def S322_1 (call : CallFn) (t0 t1 t2 t13 t15 : AV) (H : AHeap) : R :=
  pPick t13 (.bool true) t15 H fun t16 H =>
  guardA t16 false (pC call 320 [t2] H fun t20 H =>
  pGeq t1 t20 H fun t21 H =>
  S322_0 call t0 t1 t2 t16 t21 H) (S322_0 call t0 t1 t2 t16 U H)
noncomputable def S322_2 (call : CallFn) (t0 t1 t2 t9 t11 : AV) (H : AHeap) : R :=
  pPick t9 (.bool true) t11 H fun t12 H =>
  guardA t12 false (pLss t1 (.int .i64 (.ofNat 0)) H fun t15 H =>
  S322_1 call t0 t1 t2 t12 t15 H) (S322_1 call t0 t1 t2 t12 U H)
noncomputable def S322_3 (call : CallFn) (t0 t1 t2 : AV) (H : AHeap) : R :=
  pLss t0 (.int .i64 (.ofNat 1)) H fun t8 H =>
  guardA t8 false (pGeq t0 (.int .i64 (.ofNat 512)) H fun t11 H =>
  S322_2 call t0 t1 t2 t8 t11 H) (S322_2 call t0 t1 t2 t8 U H)
noncomputable def S322 : Ff := ⟨fun call l H => argA3 (fun t0 t1 t2 => S322_3 call t0 t1 t2 H) l⟩
/- (*gantline/arena.Arena).Set -/
noncomputable def S323_0 (_ : CallFn) (t0 t1 t2 t12 t15 : AV) (H : AHeap) : R :=
  pPick t12 (.bool true) t15 H fun t16 H =>
  onBool t16 (some ((.int .i64 (.ofNat 1)), H)) (pO (aNil t0) H fun t19 H =>
  pFa 1 t19 H fun t20 H =>
  ldK .none H t20 fun t21 H =>
  pIa 3 t21 t1 H fun t23 H =>
  pFa 0 t23 H fun t24 H =>
  ldK .none H t24 fun t25 H =>
  pNeq t25 (.int .i64 (.negSucc 0)) H fun t26 H =>
  onBool t26 (some ((.int .i64 (.ofNat 5)), H)) (pO (aNil t0) H fun t28 H =>
  pFa 1 t28 H fun t29 H =>
  ldK .none H t29 fun t30 H =>
  pO (someAgg (aFill [(.int .i64 (.ofNat 0)), (.int .u64 (.ofNat 0)), (.int .u64 (.ofNat 0))] [(0, 1, t2)])) H fun t33 H =>
  pIa 3 t30 t1 H fun t34 H =>
  stK 3 H t34 t33 fun _ H =>
  some ((.int .i64 (.ofNat 0)), H)))
noncomputable def S323_1 (call : CallFn) (t0 t1 t2 : AV) (H : AHeap) : R :=
  pC call 226 [t0, t1] H fun t10 H =>
  pO (aUn .not t10) H fun t11 H =>
  guardA t11 false (pC call 160 [t2] H fun t14 H =>
  pEql t14 (.int .i64 (.ofNat 0)) H fun t15 H =>
  S323_0 call t0 t1 t2 t11 t15 H) (S323_0 call t0 t1 t2 t11 U H)
noncomputable def S323 : Ff := ⟨fun call l H => argA3 (fun t0 t1 t2 => S323_1 call t0 t1 t2 H) l⟩
/- math/bits.TrailingZeros64 -/
noncomputable def S324_0 (_ : CallFn) (t0 : AV) (H : AHeap) : R :=
  pEql t0 (.int .u64 (.ofNat 0)) H fun t4 H =>
  onBool t4 (some ((.int .i64 (.ofNat 64)), H)) (pO (aUn .neg t0) H fun t7 H =>
  pAnd t0 t7 H fun t8 H =>
  pMul t8 (.int .u64 (.ofNat 285870213051353865)) H fun t9 H =>
  pO (aBin .shr t9 (.int .u64 (.ofNat 58))) H fun t10 H =>
  pIaA 1 64 (.ptr 0 0) t10 H fun t11 H =>
  ldK .none H t11 fun t12 H =>
  pConv .i64 t12 H fun t13 H =>
  some (t13, H))
noncomputable def S324 : Ff := ⟨fun call l H => argA1 (fun t0 => S324_0 call t0 H) l⟩
/- (*gantline/vm.Machine).Globals -/
noncomputable def S341_1 (_ : CallFn) (q0 : AV → AV → AV → AV → AV → AHeap → R) (t0 t3 t9 t10 t11 : AV) (H : AHeap) : R :=
  pAdd t11 (.int .i64 (.ofNat 1)) H fun t32 H =>
  q0 t0 t3 t9 t10 t32 H
noncomputable def S341_2 (call : CallFn) (q0 : AV → AV → AV → AV → AV → AHeap → R) (t0 t3 t5 t9 t10 t11 t24 t26 : AV) (H : AHeap) : R :=
  pPick t24 t26 (.bool false) H fun t27 H =>
  onBool t27 (pN (aBsl 1 1 [(.int .i64 (.ofNat 0))] [(0, 1, t5)]) H fun t30 H =>
  pW (aApp 1 8 H t3 t30) fun t31 H =>
  S341_1 call q0 t0 t31 t9 t10 t11 H) (S341_1 call q0 t0 t3 t9 t10 t11 H)
noncomputable def S341_0 (call : CallFn) (n : Nat) : AV → AV → AV → AV → AV → AHeap → R :=
  Nat.rec (motive := fun _ => AV → AV → AV → AV → AV → AHeap → R) (fun _ _ _ _ _ _ => none) (fun _ q0 t0 t3 t9 t10 t11 H => pLss t11 t10 H fun t12 H =>
  onBool t12 (pIa 1 t9 t11 H fun t14 H =>
  ldK .none H t14 fun t15 H =>
  pO (aNil t0) H fun t17 H =>
  pFa 0 t17 H fun t18 H =>
  pFa 1 t18 H fun t19 H =>
  ldK .none H t19 fun t20 H =>
  pIa 1 t20 t11 H fun t22 H =>
  ldK .none H t22 fun t23 H =>
  guardA t23 true (pNeq t15 (.int .i64 (.ofNat 0)) H fun t26 H =>
  S341_2 call q0 t0 t3 t15 t9 t10 t11 t23 t26 H) (S341_2 call q0 t0 t3 t15 t9 t10 t11 t23 U H)) (some (t3, H))) n
noncomputable def S341_3 (call : CallFn) (t0 : AV) (H : AHeap) : R :=
  pO (aNil t0) H fun t7 H =>
  pFa 8 t7 H fun t8 H =>
  ldK .none H t8 fun t9 H =>
  pO (aLen .sl H t9) H fun t10 H =>
  S341_0 call 1000000 t0 .nilsl t9 t10 (.int .i64 (.ofNat 0)) H
noncomputable def S341 : Ff := ⟨fun call l H => argA1 (fun t0 => S341_3 call t0 H) l⟩
/- (*gantline/vm.Machine).Stack -/
noncomputable def S342_0 (call : CallFn) (t0 t1 : AV) (H : AHeap) : R :=
  pO (aNil t0) H fun t7 H =>
  pFa 7 t7 H fun t8 H =>
  ldK .none H t8 fun t9 H =>
  pC call 87 [t9, t1] H fun t11 H =>
  pO (aEq false .ptr t11 .nilp) H fun t13 H =>
  onBool t13 (some (.nilsl, H)) (pO (aNil t0) H fun t16 H =>
  pFa 0 t16 H fun t17 H =>
  ldK (.some 6) H t17 fun t18 H =>
  pC call 344 [t11, t18] H fun t19 H =>
  some (t19, H))
noncomputable def S342 : Ff := ⟨fun call l H => argA2 (fun t0 t1 => S342_0 call t0 t1 H) l⟩
/- (*gantline/vm.Machine).Stacks -/
noncomputable def S343_0 (call : CallFn) (t0 : AV) (H : AHeap) : R :=
  pO (aNil t0) H fun t4 H =>
  pFa 7 t4 H fun t5 H =>
  ldK .none H t5 fun t6 H =>
  pC call 114 [t6] H fun t7 H =>
  some (t7, H)
noncomputable def S343 : Ff := ⟨fun call l H => argA1 (fun t0 => S343_0 call t0 H) l⟩
/- (*gantline/frame.Stack).Roots -/
noncomputable def S344_1 (_ : CallFn) (q0 : AV → AV → AV → AV → AV → AHeap → R) (t3 t5 t14 t15 t16 : AV) (H : AHeap) : R :=
  pAdd t16 (.int .i64 (.ofNat 1)) H fun t70 H =>
  q0 t3 t5 t14 t15 t70 H
noncomputable def S344_3 (_ : CallFn) (q1 : AV → AV → AV → AV → AV → AV → AV → AV → AV → AV → AHeap → R) (t3 t5 t7 t8 t14 t15 t16 t44 t45 t46 : AV) (H : AHeap) : R :=
  pAdd t46 (.int .i64 (.ofNat 1)) H fun t69 H =>
  q1 t3 t5 t7 t8 t14 t15 t16 t44 t45 t69 H
noncomputable def S344_4 (call : CallFn) (q1 : AV → AV → AV → AV → AV → AV → AV → AV → AV → AV → AHeap → R) (t3 t5 t7 t8 t10 t14 t15 t16 t44 t45 t46 t61 t63 : AV) (H : AHeap) : R :=
  pPick t61 t63 (.bool false) H fun t64 H =>
  onBool t64 (pN (aBsl 1 1 [(.int .i64 (.ofNat 0))] [(0, 1, t10)]) H fun t67 H =>
  pW (aApp 1 8 H t5 t67) fun t68 H =>
  S344_3 call q1 t3 t68 t7 t8 t14 t15 t16 t44 t45 t46 H) (S344_3 call q1 t3 t5 t7 t8 t14 t15 t16 t44 t45 t46 H)
noncomputable def S344_2 (call : CallFn) (q0 : AV → AV → AV → AV → AV → AHeap → R) (n : Nat) : AV → AV → AV → AV → AV → AV → AV → AV → AV → AV → AHeap → R :=
  Nat.rec (motive := fun _ => AV → AV → AV → AV → AV → AV → AV → AV → AV → AV → AHeap → R) (fun _ _ _ _ _ _ _ _ _ _ _ => none) (fun _ q1 t3 t5 t7 t8 t14 t15 t16 t44 t45 t46 H => pLss t46 t45 H fun t47 H =>
  onBool t47 (pIa 1 t44 t46 H fun t49 H =>
  ldK .none H t49 fun t50 H =>
  pFa 1 t7 H fun t52 H =>
  ldK .none H t52 fun t53 H =>
  pIa 1 t8 t53 H fun t54 H =>
  ldK .none H t54 fun t55 H =>
  pConv .u64 t46 H fun t57 H =>
  pO (aBin .shr t55 t57) H fun t58 H =>
  pAnd t58 (.int .u64 (.ofNat 1)) H fun t59 H =>
  pEql t59 (.int .u64 (.ofNat 1)) H fun t60 H =>
  guardA t60 true (pNeq t50 (.int .i64 (.ofNat 0)) H fun t63 H =>
  S344_4 call q1 t3 t5 t7 t8 t50 t14 t15 t16 t44 t45 t46 t60 t63 H) (S344_4 call q1 t3 t5 t7 t8 t50 t14 t15 t16 t44 t45 t46 t60 U H)) (S344_1 call q0 t3 t5 t14 t15 t16 H)) n
noncomputable def S344_5 (call : CallFn) (q0 : AV → AV → AV → AV → AV → AHeap → R) (t3 t5 t7 t8 t14 t15 t16 t36 t41 : AV) (H : AHeap) : R :=
  pPick t36 (.bool true) t41 H fun t42 H =>
  onBool t42 (S344_1 call q0 t3 t5 t14 t15 t16 H) (pFa 2 t7 H fun t43 H =>
  ldK .none H t43 fun t44 H =>
  pO (aLen .sl H t44) H fun t45 H =>
  S344_2 call q0 1000000 t3 t5 t7 t8 t14 t15 t16 t44 t45 (.int .i64 (.ofNat 0)) H)
noncomputable def S344_0 (call : CallFn) (n : Nat) : AV → AV → AV → AV → AV → AHeap → R :=
  Nat.rec (motive := fun _ => AV → AV → AV → AV → AV → AHeap → R) (fun _ _ _ _ _ _ => none) (fun _ q0 t3 t5 t14 t15 t16 H => pLss t16 t15 H fun t17 H =>
  onBool t17 (pIa 3 t14 t16 H fun t18 H =>
  ldK (.some 3) H t18 fun t19 H =>
  pNew [(.int .i64 (.ofNat 0)), (.int .i64 (.ofNat 0)), .nilsl] H fun t7 H =>
  stK 3 H t7 t19 fun _ H =>
  pFa 0 t7 H fun t20 H =>
  ldK .none H t20 fun t21 H =>
  pFa 4 t3 H fun t22 H =>
  ldK .none H t22 fun t23 H =>
  pO (aLen .sl H t23) H fun t24 H =>
  pGeq t21 t24 H fun t25 H =>
  onBool t25 (S344_1 call q0 t3 t5 t14 t15 t16 H) (pFa 4 t3 H fun t26 H =>
  ldK .none H t26 fun t27 H =>
  pFa 0 t7 H fun t28 H =>
  ldK .none H t28 fun t29 H =>
  pIa 7 t27 t29 H fun t30 H =>
  pFa 6 t30 H fun t31 H =>
  ldK .none H t31 fun t32 H =>
  pFa 1 t7 H fun t33 H =>
  ldK .none H t33 fun t34 H =>
  pLss t34 (.int .i64 (.ofNat 0)) H fun t35 H =>
  guardA t35 false (pFa 1 t7 H fun t37 H =>
  ldK .none H t37 fun t38 H =>
  pO (aLen .sl H t32) H fun t40 H =>
  pGeq t38 t40 H fun t41 H =>
  S344_5 call q0 t3 t5 t7 t32 t14 t15 t16 t35 t41 H) (S344_5 call q0 t3 t5 t7 t32 t14 t15 t16 t35 U H))) (some (t5, H))) n
noncomputable def S344_6 (call : CallFn) (t0 t1 : AV) (H : AHeap) : R :=
  pBox t1 H fun t3 H =>
  pO (aNil t0) H fun t12 H =>
  pFa 0 t12 H fun t13 H =>
  ldK .none H t13 fun t14 H =>
  pO (aLen .sl H t14) H fun t15 H =>
  S344_0 call 1000000 t3 .nilsl t14 t15 (.int .i64 (.ofNat 0)) H
noncomputable def S344 : Ff := ⟨fun call l H => argA2 (fun t0 t1 => S344_6 call t0 t1 H) l⟩
end Go.Proofs.YtlmmhkcimjjakaaGreatDoor
