/- Plain functions, printed: part 2. -/
import Derived.Test.YtdccenbljfanpaaGreatDoorAdE
import Derived.Test.YtdccenbljfanpaaGreatDoorProg
import Derived.KernelRfl
namespace Go.Proofs.YtdccenbljfanpaaGreatDoor
open Go.Ab
set_option maxRecDepth 100000
/- slices.Compact[[]int,int] -/
noncomputable def S268_1 (_ : CallFn) (q0 : AV → AV → AHeap → R) (t0 t3 : AV) (H : AHeap) : R :=
  pAdd t3 (.int .i64 (.ofNat 1)) H fun t15 H =>
  q0 t0 t15 H
noncomputable def S268_2 (_ : CallFn) (t0 t3 : AV) (H : AHeap) : R :=
  pO (aSlice 1 H t0 (.some t3) .none .none) H fun t56 H =>
  pW (unitW (aClearS [(.int .i64 (.ofNat 0))] H t56)) fun _ H =>
  pO (aSlice 1 H t0 .none (.some t3) .none) H fun t59 H =>
  some (t59, H)
noncomputable def S268_4 (_ : CallFn) (q1 : AV → AV → AV → AV → AHeap → R) (t0 t3 t4 t5 : AV) (H : AHeap) : R :=
  pAdd t5 (.int .i64 (.ofNat 1)) H fun t34 H =>
  q1 t0 t3 t4 t34 H
noncomputable def S268_3 (call : CallFn) (n : Nat) : AV → AV → AV → AV → AHeap → R :=
  Nat.rec (motive := fun _ => AV → AV → AV → AV → AHeap → R) (fun _ _ _ _ _ => none) (fun _ q1 t0 t3 t4 t5 H => pO (aLen .sl H t4) H fun t31 H =>
  pLss t5 t31 H fun t32 H =>
  onBool t32 (pIa 1 t4 t5 H fun t37 H =>
  ldK .none H t37 fun t38 H =>
  pSub t5 (.int .i64 (.ofNat 1)) H fun t41 H =>
  pIa 1 t4 t41 H fun t42 H =>
  ldK .none H t42 fun t43 H =>
  pNeq t38 t43 H fun t44 H =>
  onBool t44 (pIa 1 t4 t5 H fun t49 H =>
  ldK .none H t49 fun t50 H =>
  pIa 1 t0 t3 H fun t51 H =>
  stK 1 H t51 t50 fun _ H =>
  pAdd t3 (.int .i64 (.ofNat 1)) H fun t53 H =>
  S268_4 call q1 t0 t53 t4 t5 H) (S268_4 call q1 t0 t3 t4 t5 H)) (S268_2 call t0 t3 H)) n
noncomputable def S268_0 (call : CallFn) (n : Nat) : AV → AV → AHeap → R :=
  Nat.rec (motive := fun _ => AV → AV → AHeap → R) (fun _ _ _ => none) (fun _ q0 t0 t3 H => pO (aLen .sl H t0) H fun t12 H =>
  pLss t3 t12 H fun t13 H =>
  onBool t13 (pIa 1 t0 t3 H fun t18 H =>
  ldK .none H t18 fun t19 H =>
  pSub t3 (.int .i64 (.ofNat 1)) H fun t22 H =>
  pIa 1 t0 t22 H fun t23 H =>
  ldK .none H t23 fun t24 H =>
  pEql t19 t24 H fun t25 H =>
  onBool t25 (pO (aSlice 1 H t0 (.some t3) .none .none) H fun t28 H =>
  S268_3 call 1000000 t0 t3 t28 (.int .i64 (.ofNat 1)) H) (S268_1 call q0 t0 t3 H)) (some (t0, H))) n
noncomputable def S268_5 (call : CallFn) (t0 : AV) (H : AHeap) : R :=
  pO (aLen .sl H t0) H fun t7 H =>
  pLss t7 (.int .i64 (.ofNat 2)) H fun t8 H =>
  onBool t8 (some (t0, H)) (S268_0 call 1000000 t0 (.int .i64 (.ofNat 1)) H)
noncomputable def S268 : Ff := ⟨fun call l H => argA1 (fun t0 => S268_5 call t0 H) l⟩
/- gantline/live.given -/
noncomputable def S271_0 (call : CallFn) (t0 : AV) (H : AHeap) : R :=
  pC call 82 [t0, (.fn 299 [] [])] H fun t4 H =>
  some (t4, H)
noncomputable def S271 : Ff := ⟨fun call l H => argA1 (fun t0 => S271_0 call t0 H) l⟩
/- (*gantline/verify.checker).is$1 -/
noncomputable def S274_0 (_ : CallFn) (t0 t1 t2 : AV) (H : AHeap) : R :=
  ldK .none H t1 fun t5 H =>
  pO (aNil t5) H fun t6 H =>
  pFa 6 t6 H fun t7 H =>
  pFa 4 t7 H fun t8 H =>
  ldK .none H t8 fun t9 H =>
  pIa 1 t9 t0 H fun t11 H =>
  ldK .none H t11 fun t12 H =>
  ldK .none H t2 fun t13 H =>
  pO (aEq true .bool t12 t13) H fun t14 H =>
  some (t14, H)
noncomputable def S274 : Ff := ⟨fun call l H => argA3 (fun t0 t1 t2 => S274_0 call t0 t1 t2 H) l⟩
/- slices.insertionSortOrdered[int] -/
noncomputable def S284_1 (_ : CallFn) (q0 : AV → AV → AV → AV → AHeap → R) (t0 t1 t2 t6 : AV) (H : AHeap) : R :=
  pAdd t6 (.int .i64 (.ofNat 1)) H fun t14 H =>
  q0 t0 t1 t2 t14 H
noncomputable def S284_3 (call : CallFn) (q0 : AV → AV → AV → AV → AHeap → R) (q1 : AV → AV → AV → AV → AV → AHeap → R) (t0 t1 t2 t6 t7 t19 t29 : AV) (H : AHeap) : R :=
  pPick t19 t29 (.bool false) H fun t30 H =>
  onBool t30 (pSub t7 (.int .i64 (.ofNat 1)) H fun t37 H =>
  pSub t7 (.int .i64 (.ofNat 1)) H fun t40 H =>
  pIa 1 t0 t40 H fun t41 H =>
  ldK .none H t41 fun t42 H =>
  pIa 1 t0 t7 H fun t45 H =>
  ldK .none H t45 fun t46 H =>
  pIa 1 t0 t7 H fun t47 H =>
  stK 1 H t47 t42 fun _ H =>
  pIa 1 t0 t37 H fun t48 H =>
  stK 1 H t48 t46 fun _ H =>
  pSub t7 (.int .i64 (.ofNat 1)) H fun t32 H =>
  q1 t0 t1 t2 t6 t32 H) (S284_1 call q0 t0 t1 t2 t6 H)
noncomputable def S284_4 (call : CallFn) (q0 : AV → AV → AV → AV → AHeap → R) (q1 : AV → AV → AV → AV → AV → AHeap → R) (t0 t1 t2 t6 t7 t19 t23 t28 : AV) (H : AHeap) : R :=
  guardA t19 true (pC call 290 [t23, t28] H fun t29 H =>
  S284_3 call q0 q1 t0 t1 t2 t6 t7 t19 t29 H) (S284_3 call q0 q1 t0 t1 t2 t6 t7 t19 U H)
noncomputable def S284_5 (call : CallFn) (q0 : AV → AV → AV → AV → AHeap → R) (q1 : AV → AV → AV → AV → AV → AHeap → R) (t0 t1 t2 t6 t7 t19 t23 t27 : AV) (H : AHeap) : R :=
  guardA t19 true (ldK .none H t27 fun t28 H =>
  S284_4 call q0 q1 t0 t1 t2 t6 t7 t19 t23 t28 H) (S284_4 call q0 q1 t0 t1 t2 t6 t7 t19 t23 U H)
noncomputable def S284_6 (call : CallFn) (q0 : AV → AV → AV → AV → AHeap → R) (q1 : AV → AV → AV → AV → AV → AHeap → R) (t0 t1 t2 t6 t7 t19 t23 t24 t26 : AV) (H : AHeap) : R :=
  guardA t19 true (pIa 1 t24 t26 H fun t27 H =>
  S284_5 call q0 q1 t0 t1 t2 t6 t7 t19 t23 t27 H) (S284_5 call q0 q1 t0 t1 t2 t6 t7 t19 t23 U H)
noncomputable def S284_7 (call : CallFn) (q0 : AV → AV → AV → AV → AHeap → R) (q1 : AV → AV → AV → AV → AV → AHeap → R) (t0 t1 t2 t6 t7 t19 t23 t24 t25 : AV) (H : AHeap) : R :=
  guardA t19 true (pSub t25 (.int .i64 (.ofNat 1)) H fun t26 H =>
  S284_6 call q0 q1 t0 t1 t2 t6 t7 t19 t23 t24 t26 H) (S284_6 call q0 q1 t0 t1 t2 t6 t7 t19 t23 t24 U H)
noncomputable def S284_8 (call : CallFn) (q0 : AV → AV → AV → AV → AHeap → R) (q1 : AV → AV → AV → AV → AV → AHeap → R) (t0 t1 t2 t6 t7 t19 t23 t24 : AV) (H : AHeap) : R :=
  guardA t19 true (S284_7 call q0 q1 t0 t1 t2 t6 t7 t19 t23 t24 t7 H) (S284_7 call q0 q1 t0 t1 t2 t6 t7 t19 t23 t24 U H)
noncomputable def S284_9 (call : CallFn) (q0 : AV → AV → AV → AV → AHeap → R) (q1 : AV → AV → AV → AV → AV → AHeap → R) (t0 t1 t2 t6 t7 t19 t23 : AV) (H : AHeap) : R :=
  guardA t19 true (S284_8 call q0 q1 t0 t1 t2 t6 t7 t19 t23 t0 H) (S284_8 call q0 q1 t0 t1 t2 t6 t7 t19 t23 U H)
noncomputable def S284_10 (call : CallFn) (q0 : AV → AV → AV → AV → AHeap → R) (q1 : AV → AV → AV → AV → AV → AHeap → R) (t0 t1 t2 t6 t7 t19 t22 : AV) (H : AHeap) : R :=
  guardA t19 true (ldK .none H t22 fun t23 H =>
  S284_9 call q0 q1 t0 t1 t2 t6 t7 t19 t23 H) (S284_9 call q0 q1 t0 t1 t2 t6 t7 t19 U H)
noncomputable def S284_11 (call : CallFn) (q0 : AV → AV → AV → AV → AHeap → R) (q1 : AV → AV → AV → AV → AV → AHeap → R) (t0 t1 t2 t6 t7 t19 t20 t21 : AV) (H : AHeap) : R :=
  guardA t19 true (pIa 1 t20 t21 H fun t22 H =>
  S284_10 call q0 q1 t0 t1 t2 t6 t7 t19 t22 H) (S284_10 call q0 q1 t0 t1 t2 t6 t7 t19 U H)
noncomputable def S284_12 (call : CallFn) (q0 : AV → AV → AV → AV → AHeap → R) (q1 : AV → AV → AV → AV → AV → AHeap → R) (t0 t1 t2 t6 t7 t19 t20 : AV) (H : AHeap) : R :=
  guardA t19 true (S284_11 call q0 q1 t0 t1 t2 t6 t7 t19 t20 t7 H) (S284_11 call q0 q1 t0 t1 t2 t6 t7 t19 t20 U H)
noncomputable def S284_2 (call : CallFn) (q0 : AV → AV → AV → AV → AHeap → R) (n : Nat) : AV → AV → AV → AV → AV → AHeap → R :=
  Nat.rec (motive := fun _ => AV → AV → AV → AV → AV → AHeap → R) (fun _ _ _ _ _ _ => none) (fun _ q1 t0 t1 t2 t6 t7 H => pGtr t7 t1 H fun t18 H =>
  guardA t18 true (S284_12 call q0 q1 t0 t1 t2 t6 t7 t18 t0 H) (S284_12 call q0 q1 t0 t1 t2 t6 t7 t18 U H)) n
noncomputable def S284_0 (call : CallFn) (n : Nat) : AV → AV → AV → AV → AHeap → R :=
  Nat.rec (motive := fun _ => AV → AV → AV → AV → AHeap → R) (fun _ _ _ _ _ => none) (fun _ q0 t0 t1 t2 t6 H => pLss t6 t2 H fun t12 H =>
  onBool t12 (S284_2 call q0 1000000 t0 t1 t2 t6 t6 H) (some (.tup [], H))) n
noncomputable def S284_13 (call : CallFn) (t0 t1 t2 : AV) (H : AHeap) : R :=
  pAdd t1 (.int .i64 (.ofNat 1)) H fun t9 H =>
  S284_0 call 1000000 t0 t1 t2 t9 H
noncomputable def S284 : Ff := ⟨fun call l H => argA3 (fun t0 t1 t2 => S284_13 call t0 t1 t2 H) l⟩
/- gantline/live.given$1 -/
noncomputable def S299_0 (_ : CallFn) (t0 : AV) (H : AHeap) : R :=
  pEql t0 (.int .i64 (.negSucc 0)) H fun t4 H =>
  some (t4, H)
noncomputable def S299 : Ff := ⟨fun call l H => argA1 (fun t0 => S299_0 call t0 H) l⟩
end Go.Proofs.YtdccenbljfanpaaGreatDoor
