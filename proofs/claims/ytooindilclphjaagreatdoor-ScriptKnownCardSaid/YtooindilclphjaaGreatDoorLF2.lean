/- Plain functions, printed: part 2. -/
import Derived.Test.YtooindilclphjaaGreatDoorAdE
import Derived.Test.YtooindilclphjaaGreatDoorProg
import Derived.KernelRfl
namespace Go.Proofs.YtooindilclphjaaGreatDoor
open Go.Ab
set_option maxRecDepth 100000
/- (*gantline/frame.Stack).At -/
noncomputable def S177_0 (_ : CallFn) (t3 t4 t6 t35 t50 : AV) (H : AHeap) : R :=
  pPick t35 (.bool true) t50 H fun t51 H =>
  onBool t51 (pO (someAgg (aFill [(.int .i64 (.ofNat 0)), (.int .i64 (.ofNat 0)), (.int .i64 (.ofNat 0)), (.int .i64 (.ofNat 0)), (.int .i64 (.ofNat 0))] [])) H fun t52 H =>
  stK 5 H t4 t52 fun _ H =>
  ob (allM (fun o => o) [aLoad (.some 5) H t4, some (.bool false)]) fun vs => some (resV vs, H)) (pFa 4 t3 H fun t53 H =>
  ldK .none H t53 fun t54 H =>
  pO (aNil t6) H fun t56 H =>
  pFa 0 t56 H fun t57 H =>
  ldK .none H t57 fun t58 H =>
  pIa 7 t54 t58 H fun t59 H =>
  pFa 5 t59 H fun t60 H =>
  ldK .none H t60 fun t61 H =>
  pO (aNil t6) H fun t63 H =>
  pFa 1 t63 H fun t64 H =>
  ldK .none H t64 fun t65 H =>
  pIa 5 t61 t65 H fun t66 H =>
  ldK (.some 5) H t66 fun t67 H =>
  stK 5 H t4 t67 fun _ H =>
  ob (allM (fun o => o) [aLoad (.some 5) H t4, some (.bool true)]) fun vs => some (resV vs, H))
noncomputable def S177_1 (call : CallFn) (t3 t4 t6 t35 t39 t49 : AV) (H : AHeap) : R :=
  guardA t35 false (pGeq t39 t49 H fun t50 H =>
  S177_0 call t3 t4 t6 t35 t50 H) (S177_0 call t3 t4 t6 t35 U H)
noncomputable def S177_2 (call : CallFn) (t3 t4 t6 t35 t39 t48 : AV) (H : AHeap) : R :=
  guardA t35 false (pO (aLen .sl H t48) H fun t49 H =>
  S177_1 call t3 t4 t6 t35 t39 t49 H) (S177_1 call t3 t4 t6 t35 t39 U H)
noncomputable def S177_3 (call : CallFn) (t3 t4 t6 t35 t39 t47 : AV) (H : AHeap) : R :=
  guardA t35 false (ldK .none H t47 fun t48 H =>
  S177_2 call t3 t4 t6 t35 t39 t48 H) (S177_2 call t3 t4 t6 t35 t39 U H)
noncomputable def S177_4 (call : CallFn) (t3 t4 t6 t35 t39 t46 : AV) (H : AHeap) : R :=
  guardA t35 false (pFa 5 t46 H fun t47 H =>
  S177_3 call t3 t4 t6 t35 t39 t47 H) (S177_3 call t3 t4 t6 t35 t39 U H)
noncomputable def S177_5 (call : CallFn) (t3 t4 t6 t35 t39 t41 t45 : AV) (H : AHeap) : R :=
  guardA t35 false (pIa 7 t41 t45 H fun t46 H =>
  S177_4 call t3 t4 t6 t35 t39 t46 H) (S177_4 call t3 t4 t6 t35 t39 U H)
noncomputable def S177_6 (call : CallFn) (t3 t4 t6 t35 t39 t41 t44 : AV) (H : AHeap) : R :=
  guardA t35 false (ldK .none H t44 fun t45 H =>
  S177_5 call t3 t4 t6 t35 t39 t41 t45 H) (S177_5 call t3 t4 t6 t35 t39 t41 U H)
noncomputable def S177_7 (call : CallFn) (t3 t4 t6 t35 t39 t41 t43 : AV) (H : AHeap) : R :=
  guardA t35 false (pFa 0 t43 H fun t44 H =>
  S177_6 call t3 t4 t6 t35 t39 t41 t44 H) (S177_6 call t3 t4 t6 t35 t39 t41 U H)
noncomputable def S177_8 (call : CallFn) (t3 t4 t6 t35 t39 t41 t42 : AV) (H : AHeap) : R :=
  guardA t35 false (pO (aNil t42) H fun t43 H =>
  S177_7 call t3 t4 t6 t35 t39 t41 t43 H) (S177_7 call t3 t4 t6 t35 t39 t41 U H)
noncomputable def S177_9 (call : CallFn) (t3 t4 t6 t35 t39 t41 : AV) (H : AHeap) : R :=
  guardA t35 false (S177_8 call t3 t4 t6 t35 t39 t41 t6 H) (S177_8 call t3 t4 t6 t35 t39 t41 U H)
noncomputable def S177_10 (call : CallFn) (t3 t4 t6 t35 t39 t40 : AV) (H : AHeap) : R :=
  guardA t35 false (ldK .none H t40 fun t41 H =>
  S177_9 call t3 t4 t6 t35 t39 t41 H) (S177_9 call t3 t4 t6 t35 t39 U H)
noncomputable def S177_11 (call : CallFn) (t3 t4 t6 t35 t39 : AV) (H : AHeap) : R :=
  guardA t35 false (pFa 4 t3 H fun t40 H =>
  S177_10 call t3 t4 t6 t35 t39 t40 H) (S177_10 call t3 t4 t6 t35 t39 U H)
noncomputable def S177_12 (call : CallFn) (t3 t4 t6 t35 t38 : AV) (H : AHeap) : R :=
  guardA t35 false (ldK .none H t38 fun t39 H =>
  S177_11 call t3 t4 t6 t35 t39 H) (S177_11 call t3 t4 t6 t35 U H)
noncomputable def S177_13 (call : CallFn) (t3 t4 t6 t35 t37 : AV) (H : AHeap) : R :=
  guardA t35 false (pFa 1 t37 H fun t38 H =>
  S177_12 call t3 t4 t6 t35 t38 H) (S177_12 call t3 t4 t6 t35 U H)
noncomputable def S177_14 (call : CallFn) (t3 t4 t6 t35 t36 : AV) (H : AHeap) : R :=
  guardA t35 false (pO (aNil t36) H fun t37 H =>
  S177_13 call t3 t4 t6 t35 t37 H) (S177_13 call t3 t4 t6 t35 U H)
noncomputable def S177_15 (call : CallFn) (t3 t4 t6 t28 t33 : AV) (H : AHeap) : R :=
  pPick t28 (.bool true) t33 H fun t34 H =>
  guardA t34 false (S177_14 call t3 t4 t6 t34 t6 H) (S177_14 call t3 t4 t6 t34 U H)
noncomputable def S177_16 (call : CallFn) (t3 t4 t6 t28 t32 : AV) (H : AHeap) : R :=
  guardA t28 false (pLss t32 (.int .i64 (.ofNat 0)) H fun t33 H =>
  S177_15 call t3 t4 t6 t28 t33 H) (S177_15 call t3 t4 t6 t28 U H)
noncomputable def S177_17 (call : CallFn) (t3 t4 t6 t28 t31 : AV) (H : AHeap) : R :=
  guardA t28 false (ldK .none H t31 fun t32 H =>
  S177_16 call t3 t4 t6 t28 t32 H) (S177_16 call t3 t4 t6 t28 U H)
noncomputable def S177_18 (call : CallFn) (t3 t4 t6 t28 t30 : AV) (H : AHeap) : R :=
  guardA t28 false (pFa 1 t30 H fun t31 H =>
  S177_17 call t3 t4 t6 t28 t31 H) (S177_17 call t3 t4 t6 t28 U H)
noncomputable def S177_19 (call : CallFn) (t3 t4 t6 t28 t29 : AV) (H : AHeap) : R :=
  guardA t28 false (pO (aNil t29) H fun t30 H =>
  S177_18 call t3 t4 t6 t28 t30 H) (S177_18 call t3 t4 t6 t28 U H)
noncomputable def S177_20 (call : CallFn) (t3 t4 t6 t18 t26 : AV) (H : AHeap) : R :=
  pPick t18 (.bool true) t26 H fun t27 H =>
  guardA t27 false (S177_19 call t3 t4 t6 t27 t6 H) (S177_19 call t3 t4 t6 t27 U H)
noncomputable def S177_21 (call : CallFn) (t3 t4 t6 t18 t22 t25 : AV) (H : AHeap) : R :=
  guardA t18 false (pGeq t22 t25 H fun t26 H =>
  S177_20 call t3 t4 t6 t18 t26 H) (S177_20 call t3 t4 t6 t18 U H)
noncomputable def S177_22 (call : CallFn) (t3 t4 t6 t18 t22 t24 : AV) (H : AHeap) : R :=
  guardA t18 false (pO (aLen .sl H t24) H fun t25 H =>
  S177_21 call t3 t4 t6 t18 t22 t25 H) (S177_21 call t3 t4 t6 t18 t22 U H)
noncomputable def S177_23 (call : CallFn) (t3 t4 t6 t18 t22 t23 : AV) (H : AHeap) : R :=
  guardA t18 false (ldK .none H t23 fun t24 H =>
  S177_22 call t3 t4 t6 t18 t22 t24 H) (S177_22 call t3 t4 t6 t18 t22 U H)
noncomputable def S177_24 (call : CallFn) (t3 t4 t6 t18 t22 : AV) (H : AHeap) : R :=
  guardA t18 false (pFa 4 t3 H fun t23 H =>
  S177_23 call t3 t4 t6 t18 t22 t23 H) (S177_23 call t3 t4 t6 t18 t22 U H)
noncomputable def S177_25 (call : CallFn) (t3 t4 t6 t18 t21 : AV) (H : AHeap) : R :=
  guardA t18 false (ldK .none H t21 fun t22 H =>
  S177_24 call t3 t4 t6 t18 t22 H) (S177_24 call t3 t4 t6 t18 U H)
noncomputable def S177_26 (call : CallFn) (t3 t4 t6 t18 t20 : AV) (H : AHeap) : R :=
  guardA t18 false (pFa 0 t20 H fun t21 H =>
  S177_25 call t3 t4 t6 t18 t21 H) (S177_25 call t3 t4 t6 t18 U H)
noncomputable def S177_27 (call : CallFn) (t3 t4 t6 t18 t19 : AV) (H : AHeap) : R :=
  guardA t18 false (pO (aNil t19) H fun t20 H =>
  S177_26 call t3 t4 t6 t18 t20 H) (S177_26 call t3 t4 t6 t18 U H)
noncomputable def S177_28 (call : CallFn) (t3 t4 t6 t11 t16 : AV) (H : AHeap) : R :=
  pPick t11 (.bool true) t16 H fun t17 H =>
  guardA t17 false (S177_27 call t3 t4 t6 t17 t6 H) (S177_27 call t3 t4 t6 t17 U H)
noncomputable def S177_29 (call : CallFn) (t3 t4 t6 t11 t15 : AV) (H : AHeap) : R :=
  guardA t11 false (pLss t15 (.int .i64 (.ofNat 0)) H fun t16 H =>
  S177_28 call t3 t4 t6 t11 t16 H) (S177_28 call t3 t4 t6 t11 U H)
noncomputable def S177_30 (call : CallFn) (t3 t4 t6 t11 t14 : AV) (H : AHeap) : R :=
  guardA t11 false (ldK .none H t14 fun t15 H =>
  S177_29 call t3 t4 t6 t11 t15 H) (S177_29 call t3 t4 t6 t11 U H)
noncomputable def S177_31 (call : CallFn) (t3 t4 t6 t11 t13 : AV) (H : AHeap) : R :=
  guardA t11 false (pFa 0 t13 H fun t14 H =>
  S177_30 call t3 t4 t6 t11 t14 H) (S177_30 call t3 t4 t6 t11 U H)
noncomputable def S177_32 (call : CallFn) (t3 t4 t6 t11 t12 : AV) (H : AHeap) : R :=
  guardA t11 false (pO (aNil t12) H fun t13 H =>
  S177_31 call t3 t4 t6 t11 t13 H) (S177_31 call t3 t4 t6 t11 U H)
noncomputable def S177_33 (call : CallFn) (t0 t1 : AV) (H : AHeap) : R :=
  pBox t1 H fun t3 H =>
  pNew [(.int .i64 (.ofNat 0)), (.int .i64 (.ofNat 0)), (.int .i64 (.ofNat 0)), (.int .i64 (.ofNat 0)), (.int .i64 (.ofNat 0))] H fun t4 H =>
  pC call 271 [t0] H fun t8 H =>
  pO (aEq false .ptr t8 .nilp) H fun t10 H =>
  guardA t10 false (S177_32 call t3 t4 t8 t10 t8 H) (S177_32 call t3 t4 t8 t10 U H)
noncomputable def S177 : Ff := ⟨fun call l H => argA2 (fun t0 t1 => S177_33 call t0 t1 H) l⟩
/- slices.Clone[[]gantline/vm.Act,gantline/vm.Act] -/
noncomputable def S182_0 (_ : CallFn) (t0 : AV) (H : AHeap) : R :=
  pO (aEq false .sl t0 .nilsl) H fun t4 H =>
  onBool t4 (some (.nilsl, H)) (pN (aBsl 7 0 [(.int .i64 (.ofNat 0)), (.int .i64 (.ofNat 0)), (.int .i64 (.ofNat 0)), (.int .i64 (.ofNat 0)), (.int .i64 (.ofNat 0)), (.int .i64 (.ofNat 0)), (.int .i64 (.ofNat 0))] []) H fun t5 H =>
  pW (aApp 7 56 H t5 t0) fun t7 H =>
  some (t7, H))
noncomputable def S182 : Ff := ⟨fun call l H => argA1 (fun t0 => S182_0 call t0 H) l⟩
/- internal/stringslite.HasPrefix -/
noncomputable def S193_0 (_ : CallFn) (t10 t16 : AV) (H : AHeap) : R :=
  pPick t10 t16 (.bool false) H fun t17 H =>
  some (t17, H)
noncomputable def S193_1 (call : CallFn) (t0 t1 : AV) (H : AHeap) : R :=
  pO (aLen .str H t0) H fun t6 H =>
  pO (aLen .str H t1) H fun t8 H =>
  pGeq t6 t8 H fun t9 H =>
  guardA t9 true (pO (aLen .str H t1) H fun t13 H =>
  pO (aSliceS t0 .none (.some t13)) H fun t14 H =>
  pEql t14 t1 H fun t16 H =>
  S193_0 call t9 t16 H) (S193_0 call t9 U H)
noncomputable def S193 : Ff := ⟨fun call l H => argA2 (fun t0 t1 => S193_1 call t0 t1 H) l⟩
/- (*gantline/parse.parser).next -/
noncomputable def S195_0 (_ : CallFn) (t2 t3 : AV) (H : AHeap) : R :=
  ldK (.some 3) H t3 fun t24 H =>
  stK 3 H t2 t24 fun _ H =>
  ob (allM (fun o => o) [aLoad (.some 3) H t2]) fun vs => some (resV vs, H)
noncomputable def S195_1 (call : CallFn) (t0 : AV) (H : AHeap) : R :=
  pNew [(.int .i64 (.ofNat 0)), (.str []), (.int .i64 (.ofNat 0))] H fun t2 H =>
  pC call 62 [t0] H fun t5 H =>
  pNew [(.int .i64 (.ofNat 0)), (.str []), (.int .i64 (.ofNat 0))] H fun t3 H =>
  stK 3 H t3 t5 fun _ H =>
  pO (aNil t0) H fun t7 H =>
  pFa 1 t7 H fun t8 H =>
  ldK .none H t8 fun t9 H =>
  pO (aNil t0) H fun t11 H =>
  pFa 0 t11 H fun t12 H =>
  ldK .none H t12 fun t13 H =>
  pO (aLen .sl H t13) H fun t14 H =>
  pSub t14 (.int .i64 (.ofNat 1)) H fun t15 H =>
  pLss t9 t15 H fun t16 H =>
  onBool t16 (pO (aNil t0) H fun t18 H =>
  pFa 1 t18 H fun t19 H =>
  ldK .none H t19 fun t20 H =>
  pAdd t20 (.int .i64 (.ofNat 1)) H fun t21 H =>
  pO (aNil t0) H fun t22 H =>
  pFa 1 t22 H fun t23 H =>
  stK 1 H t23 t21 fun _ H =>
  S195_0 call t2 t3 H) (S195_0 call t2 t3 H)
noncomputable def S195 : Ff := ⟨fun call l H => argA1 (fun t0 => S195_1 call t0 H) l⟩
/- slices.Contains[[]string,string] -/
noncomputable def S196_0 (call : CallFn) (t0 t1 : AV) (H : AHeap) : R :=
  pC call 287 [t0, t1] H fun t7 H =>
  pGeq t7 (.int .i64 (.ofNat 0)) H fun t8 H =>
  some (t8, H)
noncomputable def S196 : Ff := ⟨fun call l H => argA2 (fun t0 t1 => S196_0 call t0 t1 H) l⟩
/- (*gantline/parse.parser).many -/
noncomputable def S198_0 (call : CallFn) (t0 t5 : AV) (H : AHeap) : R :=
  pC call 129 [t0, (.str [41])] H fun _ H =>
  some (t5, H)
noncomputable def S198_2 (call : CallFn) (q0 : AV → AV → AV → AHeap → R) (t0 t1 t5 t11 t20 : AV) (H : AHeap) : R :=
  pPick t11 t20 (.bool false) H fun t21 H =>
  onBool t21 (pV call t1 [] H fun t24 H =>
  pN (aBsl 4 1 [(.str []), (.str []), (.int .i64 (.ofNat 0)), .nilsl] [(0, 4, t24)]) H fun t25 H =>
  pW (aApp 4 64 H t5 t25) fun t26 H =>
  pC call 127 [t0, (.str [44])] H fun t28 H =>
  pO (aUn .not t28) H fun t29 H =>
  onBool t29 (S198_0 call t0 t26 H) (q0 t0 t1 t26 H)) (S198_0 call t0 t5 H)
noncomputable def S198_3 (call : CallFn) (q0 : AV → AV → AV → AHeap → R) (t0 t1 t5 t11 t15 t19 : AV) (H : AHeap) : R :=
  guardA t11 true (pPick t15 (.bool true) t19 H fun t20 H =>
  S198_2 call q0 t0 t1 t5 t11 t20 H) (S198_2 call q0 t0 t1 t5 t11 U H)
noncomputable def S198_4 (call : CallFn) (q0 : AV → AV → AV → AHeap → R) (t0 t1 t5 t11 t15 : AV) (H : AHeap) : R :=
  guardA t15 false (pN (aBsl 1 1 [(.str [])] [(0, 1, (.str [41]))]) H fun t17 H =>
  pC call 130 [t0, t17] H fun t18 H =>
  pO (aUn .not t18) H fun t19 H =>
  S198_3 call q0 t0 t1 t5 t11 t15 t19 H) (S198_3 call q0 t0 t1 t5 t11 t15 U H)
noncomputable def S198_1 (call : CallFn) (n : Nat) : AV → AV → AV → AHeap → R :=
  Nat.rec (motive := fun _ => AV → AV → AV → AHeap → R) (fun _ _ _ _ => none) (fun _ q0 t0 t1 t5 H => pO (aNil t0) H fun t7 H =>
  pFa 3 t7 H fun t8 H =>
  ldK .none H t8 fun t9 H =>
  pEql t9 (.int .i64 (.ofNat 0)) H fun t10 H =>
  guardA t10 true (pO (aLen .sl H t5) H fun t13 H =>
  pGtr t13 (.int .i64 (.ofNat 0)) H fun t14 H =>
  S198_4 call q0 t0 t1 t5 t10 t14 H) (S198_4 call q0 t0 t1 t5 t10 U H)) n
noncomputable def S198 : Ff := ⟨fun call l H => argA2 (fun t0 t1 => S198_1 call 1000000 t0 t1 .nilsl H) l⟩
/- (*gantline/parse.parser).result -/
noncomputable def S200_0 (call : CallFn) (t0 t2 t7 t10 : AV) (H : AHeap) : R :=
  pPick t7 (.bool true) t10 H fun t11 H =>
  onBool t11 (pC call 197 [t0] H fun t13 H =>
  stK 4 H t2 t13 fun _ H =>
  ob (allM (fun o => o) [aLoad (.some 4) H t2]) fun vs => some (resV vs, H)) (pC call 61 [t0, (.str [110, 111, 110, 101])] H fun t15 H =>
  stK 4 H t2 t15 fun _ H =>
  ob (allM (fun o => o) [aLoad (.some 4) H t2]) fun vs => some (resV vs, H))
noncomputable def S200_1 (call : CallFn) (t0 : AV) (H : AHeap) : R :=
  pNew [(.str []), (.str []), (.int .i64 (.ofNat 0)), .nilsl] H fun t2 H =>
  pC call 62 [t0] H fun t4 H =>
  pO (aFld 0 .none t4) H fun t5 H =>
  pEql t5 (.int .i64 (.ofNat 1)) H fun t6 H =>
  guardA t6 false (pN (aBsl 1 5 [(.str [])] [(0, 1, (.str [105, 110, 116])), (1, 1, (.str [98, 111, 111, 108])), (2, 1, (.str [91])), (3, 1, (.str [99, 104, 97, 110])), (4, 1, (.str [102, 117, 110, 99]))]) H fun t9 H =>
  pC call 130 [t0, t9] H fun t10 H =>
  S200_0 call t0 t2 t6 t10 H) (S200_0 call t0 t2 t6 U H)
noncomputable def S200 : Ff := ⟨fun call l H => argA1 (fun t0 => S200_1 call t0 H) l⟩
/- (*gantline/parse.parser).block -/
noncomputable def S201_0 (call : CallFn) (t0 t2 t3 t10000 : AV) (H : AHeap) : R :=
  pC call 129 [t0, (.str [125])] H fun _ H =>
  ldK (.some 4) H t3 fun t31 H =>
  stK 4 H t2 t31 fun _ H =>
  pO (aNil t10000) H fun t20003 H =>
  pFa 2 t20003 H fun t20004 H =>
  ldK .none H t20004 fun t20005 H =>
  pSub t20005 (.int .i64 (.ofNat 1)) H fun t20006 H =>
  pO (aNil t10000) H fun t20007 H =>
  pFa 2 t20007 H fun t20008 H =>
  stK 1 H t20008 t20006 fun _ H =>
  ob (allM (fun o => o) [aLoad (.some 4) H t2]) fun vs => some (resV vs, H)
noncomputable def S201_2 (call : CallFn) (q0 : AV → AV → AV → AV → AHeap → R) (t0 t2 t3 t16 t20 t10000 : AV) (H : AHeap) : R :=
  pPick t16 t20 (.bool false) H fun t21 H =>
  onBool t21 (pFa 3 t3 H fun t22 H =>
  ldK .none H t22 fun t23 H =>
  pC call 290 [t0] H fun t25 H =>
  andR (andB (ckV (aLoad .none H t22) t23) true) (
  pN (aBsl 4 1 [(.str []), (.str []), (.int .i64 (.ofNat 0)), .nilsl] [(0, 4, t25)]) H fun t26 H =>
  pW (aApp 4 64 H t23 t26) fun t27 H =>
  pFa 3 t3 H fun t28 H =>
  stK 1 H t28 t27 fun _ H =>
  q0 t0 t2 t3 t10000 H)) (S201_0 call t0 t2 t3 t10000 H)
noncomputable def S201_1 (call : CallFn) (n : Nat) : AV → AV → AV → AV → AHeap → R :=
  Nat.rec (motive := fun _ => AV → AV → AV → AV → AHeap → R) (fun _ _ _ _ _ => none) (fun _ q0 t0 t2 t3 t10000 H => pO (aNil t0) H fun t12 H =>
  pFa 3 t12 H fun t13 H =>
  ldK .none H t13 fun t14 H =>
  pEql t14 (.int .i64 (.ofNat 0)) H fun t15 H =>
  guardA t15 true (pN (aBsl 1 1 [(.str [])] [(0, 1, (.str [125]))]) H fun t18 H =>
  pC call 130 [t0, t18] H fun t19 H =>
  pO (aUn .not t19) H fun t20 H =>
  S201_2 call q0 t0 t2 t3 t15 t20 t10000 H) (S201_2 call q0 t0 t2 t3 t15 U t10000 H)) n
noncomputable def S201_3 (call : CallFn) (t0 t2 t10000 : AV) (H : AHeap) : R :=
  pC call 61 [t0, (.str [98, 108, 111, 99, 107])] H fun t8 H =>
  pNew [(.str []), (.str []), (.int .i64 (.ofNat 0)), .nilsl] H fun t3 H =>
  stK 4 H t3 t8 fun _ H =>
  pC call 129 [t0, (.str [123])] H fun _ H =>
  S201_1 call 1000000 t0 t2 t3 t10000 H
noncomputable def S201_4 (call : CallFn) (t0 : AV) (H : AHeap) : R :=
  pNew [(.str []), (.str []), (.int .i64 (.ofNat 0)), .nilsl] H fun t2 H =>
  pC call 288 [t0] H fun _ H =>
  S201_3 call t0 t2 t0 H
noncomputable def S201 : Ff := ⟨fun call l H => argA1 (fun t0 => S201_4 call t0 H) l⟩
/- strings.CutPrefix -/
noncomputable def S202_0 (call : CallFn) (t0 t1 : AV) (H : AHeap) : R :=
  pC call 291 [t0, t1] H fun t8 H =>
  pExt t8 0 H fun t9 H =>
  pExt t8 1 H fun t10 H =>
  some (.tup [t9, t10], H)
noncomputable def S202 : Ff := ⟨fun call l H => argA2 (fun t0 t1 => S202_0 call t0 t1 H) l⟩
/- slices.ContainsFunc[[]gantline/head.Shape,gantline/head.Shape] -/
noncomputable def S229_0 (call : CallFn) (t0 t1 : AV) (H : AHeap) : R :=
  pC call 320 [t0, t1] H fun t7 H =>
  pGeq t7 (.int .i64 (.ofNat 0)) H fun t8 H =>
  some (t8, H)
noncomputable def S229 : Ff := ⟨fun call l H => argA2 (fun t0 t1 => S229_0 call t0 t1 H) l⟩
/- slices.ContainsFunc[[]int64,int64] -/
noncomputable def S230_0 (call : CallFn) (t0 t1 : AV) (H : AHeap) : R :=
  pC call 321 [t0, t1] H fun t7 H =>
  pGeq t7 (.int .i64 (.ofNat 0)) H fun t8 H =>
  some (t8, H)
noncomputable def S230 : Ff := ⟨fun call l H => argA2 (fun t0 t1 => S230_0 call t0 t1 H) l⟩
/- slices.Index[[]int,int] -/
noncomputable def S231_0 (_ : CallFn) (n : Nat) : AV → AV → AV → AV → AHeap → R :=
  Nat.rec (motive := fun _ => AV → AV → AV → AV → AHeap → R) (fun _ _ _ _ _ => none) (fun _ q0 t0 t1 t7 t8 H => pLss t8 t7 H fun t9 H =>
  onBool t9 (pIa 1 t0 t8 H fun t14 H =>
  ldK .none H t14 fun t15 H =>
  pEql t1 t15 H fun t16 H =>
  onBool t16 (some (t8, H)) (pAdd t8 (.int .i64 (.ofNat 1)) H fun t18 H =>
  q0 t0 t1 t7 t18 H)) (some ((.int .i64 (.negSucc 0)), H))) n
noncomputable def S231_1 (call : CallFn) (t0 t1 : AV) (H : AHeap) : R :=
  pO (aLen .sl H t0) H fun t7 H =>
  S231_0 call 1000000 t0 t1 t7 (.int .i64 (.ofNat 0)) H
noncomputable def S231 : Ff := ⟨fun call l H => argA2 (fun t0 t1 => S231_1 call t0 t1 H) l⟩
/- (*gantline/verify.checker).slots -/
noncomputable def S232_0 (_ : CallFn) (t31 t39 : AV) (H : AHeap) : R :=
  pPick t31 t39 (.bool false) H fun t40 H =>
  some (t40, H)
noncomputable def S232_1 (call : CallFn) (t1 t31 t32 t33 t34 t38 : AV) (H : AHeap) : R :=
  andR (andB (gdB t31 true (ckV (aLoad .none H t1) t32)) (andB (gdB t31 true (ckV (aLoad .none H t33) t34)) true)) (
  guardA t31 true (pC call 324 [t32, t34, t38] H fun t39 H =>
  S232_0 call t31 t39 H) (S232_0 call t31 U H))
noncomputable def S232_2 (call : CallFn) (t1 t31 t32 t33 t34 t35 t37 : AV) (H : AHeap) : R :=
  guardA t31 true (pC call 325 [t35, t37] H fun t38 H =>
  S232_1 call t1 t31 t32 t33 t34 t38 H) (S232_1 call t1 t31 t32 t33 t34 U H)
noncomputable def S232_3 (call : CallFn) (t1 t31 t32 t33 t34 t35 t36 : AV) (H : AHeap) : R :=
  guardA t31 true (ldK .none H t36 fun t37 H =>
  S232_2 call t1 t31 t32 t33 t34 t35 t37 H) (S232_2 call t1 t31 t32 t33 t34 t35 U H)
noncomputable def S232_4 (call : CallFn) (t1 t3 t31 t32 t33 t34 t35 : AV) (H : AHeap) : R :=
  guardA t31 true (pFa 2 t3 H fun t36 H =>
  S232_3 call t1 t31 t32 t33 t34 t35 t36 H) (S232_3 call t1 t31 t32 t33 t34 t35 U H)
noncomputable def S232_5 (call : CallFn) (t1 t3 t31 t32 t33 t34 : AV) (H : AHeap) : R :=
  guardA t31 true (ldK .none H t1 fun t35 H =>
  S232_4 call t1 t3 t31 t32 t33 t34 t35 H) (S232_4 call t1 t3 t31 t32 t33 t34 U H)
noncomputable def S232_6 (call : CallFn) (t1 t3 t31 t32 t33 : AV) (H : AHeap) : R :=
  guardA t31 true (ldK .none H t33 fun t34 H =>
  S232_5 call t1 t3 t31 t32 t33 t34 H) (S232_5 call t1 t3 t31 t32 t33 U H)
noncomputable def S232_7 (call : CallFn) (t1 t3 t31 t32 : AV) (H : AHeap) : R :=
  guardA t31 true (pFa 3 t3 H fun t33 H =>
  S232_6 call t1 t3 t31 t32 t33 H) (S232_6 call t1 t3 t31 t32 U H)
noncomputable def S232_8 (_ : CallFn) (t54 t60 : AV) (H : AHeap) : R :=
  pPick t54 t60 (.bool false) H fun t61 H =>
  some (t61, H)
noncomputable def S232_9 (call : CallFn) (t1 t3 t48 t52 : AV) (H : AHeap) : R :=
  pPick t48 t52 (.bool false) H fun t53 H =>
  guardA t53 true (ldK .none H t1 fun t55 H =>
  pFa 3 t3 H fun t56 H =>
  ldK .none H t56 fun t57 H =>
  pFa 4 t3 H fun t58 H =>
  ldK .none H t58 fun t59 H =>
  pC call 324 [t55, t57, t59] H fun t60 H =>
  S232_8 call t53 t60 H) (S232_8 call t53 U H)
noncomputable def S232_10 (_ : CallFn) (t87 t93 : AV) (H : AHeap) : R :=
  pPick t87 t93 (.bool false) H fun t94 H =>
  some (t94, H)
noncomputable def S232_11 (_ : CallFn) (t109 t115 : AV) (H : AHeap) : R :=
  pPick t109 t115 (.bool false) H fun t116 H =>
  some (t116, H)
noncomputable def S232_12 (_ : CallFn) (t130 t134 : AV) (H : AHeap) : R :=
  pPick t130 t134 (.bool false) H fun t135 H =>
  some (t135, H)
noncomputable def S232_13 (call : CallFn) (t3 t4 t124 t128 : AV) (H : AHeap) : R :=
  pPick t124 t128 (.bool false) H fun t129 H =>
  guardA t129 true (ldK .none H t4 fun t131 H =>
  pFa 3 t3 H fun t132 H =>
  ldK .none H t132 fun t133 H =>
  pV call t131 [t133] H fun t134 H =>
  S232_12 call t129 t134 H) (S232_12 call t129 U H)
noncomputable def S232_14 (call : CallFn) (t1 t3 t4 t5 t20 t22 : AV) (H : AHeap) : R :=
  pPick t20 (.bool true) t22 H fun t23 H =>
  onBool t23 (some ((.bool false), H)) (pEql t5 (.int .i64 (.ofNat 20)) H fun t26 H =>
  onBool t26 (ldK .none H t4 fun t27 H =>
  pFa 1 t3 H fun t28 H =>
  ldK .none H t28 fun t29 H =>
  pV call t27 [t29] H fun t30 H =>
  guardA t30 true (ldK .none H t1 fun t32 H =>
  S232_7 call t1 t3 t30 t32 H) (S232_7 call t1 t3 t30 U H)) (pEql t5 (.int .i64 (.ofNat 21)) H fun t43 H =>
  onBool t43 (ldK .none H t4 fun t44 H =>
  pFa 1 t3 H fun t45 H =>
  ldK .none H t45 fun t46 H =>
  pV call t44 [t46] H fun t47 H =>
  guardA t47 true (ldK .none H t1 fun t49 H =>
  pFa 2 t3 H fun t50 H =>
  ldK .none H t50 fun t51 H =>
  pC call 323 [t49, t51] H fun t52 H =>
  S232_9 call t1 t3 t47 t52 H) (S232_9 call t1 t3 t47 U H)) (pEql t5 (.int .i64 (.ofNat 22)) H fun t64 H =>
  onBool t64 (ldK .none H t4 fun t65 H =>
  pFa 1 t3 H fun t66 H =>
  ldK .none H t66 fun t67 H =>
  pV call t65 [t67] H fun t68 H =>
  some (t68, H)) (pEql t5 (.int .i64 (.ofNat 23)) H fun t71 H =>
  onBool t71 (ldK .none H t1 fun t72 H =>
  pFa 2 t3 H fun t73 H =>
  ldK .none H t73 fun t74 H =>
  ldK .none H t1 fun t75 H =>
  pFa 1 t3 H fun t76 H =>
  ldK .none H t76 fun t77 H =>
  pC call 325 [t75, t77] H fun t78 H =>
  andR (andB (ckV (aLoad .none H t1) t72) (andB (ckV (aLoad .none H t73) t74) true)) (
  pC call 324 [t72, t74, t78] H fun t79 H =>
  some (t79, H))) (pEql t5 (.int .i64 (.ofNat 24)) H fun t82 H =>
  onBool t82 (ldK .none H t1 fun t83 H =>
  pFa 1 t3 H fun t84 H =>
  ldK .none H t84 fun t85 H =>
  pC call 323 [t83, t85] H fun t86 H =>
  guardA t86 true (ldK .none H t1 fun t88 H =>
  pFa 2 t3 H fun t89 H =>
  ldK .none H t89 fun t90 H =>
  pFa 3 t3 H fun t91 H =>
  ldK .none H t91 fun t92 H =>
  pC call 324 [t88, t90, t92] H fun t93 H =>
  S232_10 call t86 t93 H) (S232_10 call t86 U H)) (pEql t5 (.int .i64 (.ofNat 36)) H fun t97 H =>
  onBool t97 (ldK .none H t1 fun t99 H =>
  pFa 2 t3 H fun t100 H =>
  ldK .none H t100 fun t101 H =>
  pC call 326 [t99, t101] H fun t102 H =>
  pExt t102 0 H fun t103 H =>
  pExt t102 1 H fun _ H =>
  pNew [(.int .i64 (.ofNat 0)), (.int .i64 (.ofNat 0)), (.int .i64 (.ofNat 0)), (.int .i64 (.ofNat 0)), .nilsl, .nilsl, .nilsl] H fun t6 H =>
  stK 7 H t6 t103 fun _ H =>
  ldK .none H t1 fun t105 H =>
  pFa 1 t3 H fun t106 H =>
  ldK .none H t106 fun t107 H =>
  pC call 323 [t105, t107] H fun t108 H =>
  guardA t108 true (ldK .none H t1 fun t110 H =>
  pFa 3 t3 H fun t111 H =>
  ldK .none H t111 fun t112 H =>
  pFa 1 t6 H fun t113 H =>
  ldK .none H t113 fun t114 H =>
  pC call 324 [t110, t112, t114] H fun t115 H =>
  S232_11 call t108 t115 H) (S232_11 call t108 U H)) (pEql t5 (.int .i64 (.ofNat 39)) H fun t119 H =>
  onBool t119 (ldK .none H t4 fun t120 H =>
  pFa 1 t3 H fun t121 H =>
  ldK .none H t121 fun t122 H =>
  pV call t120 [t122] H fun t123 H =>
  guardA t123 true (ldK .none H t1 fun t125 H =>
  pFa 2 t3 H fun t126 H =>
  ldK .none H t126 fun t127 H =>
  pC call 323 [t125, t127] H fun t128 H =>
  S232_13 call t3 t4 t123 t128 H) (S232_13 call t3 t4 t123 U H)) (pEql t5 (.int .i64 (.ofNat 41)) H fun t138 H =>
  onBool t138 (ldK .none H t1 fun t140 H =>
  pC call 327 [t140] H fun t141 H =>
  pExt t141 0 H fun t142 H =>
  pExt t141 1 H fun _ H =>
  pC call 328 [t142, (.fn 329 [] [t1, t4])] H fun t146 H =>
  pO (aUn .not t146) H fun t147 H =>
  some (t147, H)) (ldK .none H t1 fun t148 H =>
  pO (aNil t148) H fun t149 H =>
  pFa 0 t149 H fun t150 H =>
  ldK (.some 6) H t150 fun t151 H =>
  ldK (.some 5) H t3 fun t152 H =>
  ldK (.some 5) H t3 fun t154 H =>
  pC call 241 [t151, t152] H fun t153 H =>
  andR (andB (ckV (aLoad (.some 5) H t3) t154) true) (
  pC call 242 [t154] H fun t155 H =>
  pW (aApp 1 8 H t153 t155) fun t156 H =>
  pC call 330 [t156, (.fn 331 [] [t1])] H fun t158 H =>
  pO (aUn .not t158) H fun t159 H =>
  some (t159, H)))))))))))
noncomputable def S232_15 (call : CallFn) (t0 : AV) (H : AHeap) : R :=
  pBox t0 H fun t1 H =>
  ldK .none H t1 fun t10 H =>
  pO (aNil t10) H fun t11 H =>
  pFa 17 t11 H fun t12 H =>
  ldK (.some 5) H t12 fun t13 H =>
  pNew [(.int .i64 (.ofNat 0)), (.int .i64 (.ofNat 0)), (.int .i64 (.ofNat 0)), (.int .i64 (.ofNat 0)), (.int .i64 (.ofNat 0))] H fun t3 H =>
  stK 5 H t3 t13 fun _ H =>
  pNew [.nilfn] H fun t4 H =>
  stK 1 H t4 (.fn 322 [] [t1]) fun _ H =>
  pFa 0 t3 H fun t15 H =>
  ldK .none H t15 fun t16 H =>
  pLss t16 (.int .i64 (.ofNat 0)) H fun t19 H =>
  guardA t19 false (pGtr t16 (.int .i64 (.ofNat 44)) H fun t22 H =>
  S232_14 call t1 t3 t4 t16 t19 t22 H) (S232_14 call t1 t3 t4 t16 t19 U H)
noncomputable def S232 : Ff := ⟨fun call l H => argA1 (fun t0 => S232_15 call t0 H) l⟩
/- (*gantline/verify.checker).there -/
noncomputable def S233_0 (_ : CallFn) (t21 t30 : AV) (H : AHeap) : R :=
  pPick t21 t30 (.bool false) H fun t31 H =>
  some (t31, H)
noncomputable def S233_1 (call : CallFn) (t21 t23 t29 : AV) (H : AHeap) : R :=
  guardA t21 true (pLss t23 t29 H fun t30 H =>
  S233_0 call t21 t30 H) (S233_0 call t21 U H)
noncomputable def S233_2 (call : CallFn) (t21 t23 t28 : AV) (H : AHeap) : R :=
  guardA t21 true (pO (aLen .sl H t28) H fun t29 H =>
  S233_1 call t21 t23 t29 H) (S233_1 call t21 t23 U H)
noncomputable def S233_3 (call : CallFn) (t21 t23 t27 : AV) (H : AHeap) : R :=
  guardA t21 true (ldK .none H t27 fun t28 H =>
  S233_2 call t21 t23 t28 H) (S233_2 call t21 t23 U H)
noncomputable def S233_4 (call : CallFn) (t21 t23 t26 : AV) (H : AHeap) : R :=
  guardA t21 true (pFa 2 t26 H fun t27 H =>
  S233_3 call t21 t23 t27 H) (S233_3 call t21 t23 U H)
noncomputable def S233_5 (call : CallFn) (t21 t23 t25 : AV) (H : AHeap) : R :=
  guardA t21 true (pFa 0 t25 H fun t26 H =>
  S233_4 call t21 t23 t26 H) (S233_4 call t21 t23 U H)
noncomputable def S233_6 (call : CallFn) (t21 t23 t24 : AV) (H : AHeap) : R :=
  guardA t21 true (pO (aNil t24) H fun t25 H =>
  S233_5 call t21 t23 t25 H) (S233_5 call t21 t23 U H)
noncomputable def S233_7 (call : CallFn) (t0 t21 t23 : AV) (H : AHeap) : R :=
  guardA t21 true (S233_6 call t21 t23 t0 H) (S233_6 call t21 t23 U H)
noncomputable def S233_8 (call : CallFn) (t0 t21 t22 : AV) (H : AHeap) : R :=
  guardA t21 true (ldK .none H t22 fun t23 H =>
  S233_7 call t0 t21 t23 H) (S233_7 call t0 t21 U H)
noncomputable def S233_9 (_ : CallFn) (t55 t64 : AV) (H : AHeap) : R :=
  pPick t55 t64 (.bool false) H fun t65 H =>
  some (t65, H)
noncomputable def S233_10 (call : CallFn) (t55 t57 t63 : AV) (H : AHeap) : R :=
  guardA t55 true (pLss t57 t63 H fun t64 H =>
  S233_9 call t55 t64 H) (S233_9 call t55 U H)
noncomputable def S233_11 (call : CallFn) (t55 t57 t62 : AV) (H : AHeap) : R :=
  guardA t55 true (pO (aLen .sl H t62) H fun t63 H =>
  S233_10 call t55 t57 t63 H) (S233_10 call t55 t57 U H)
noncomputable def S233_12 (call : CallFn) (t55 t57 t61 : AV) (H : AHeap) : R :=
  guardA t55 true (ldK .none H t61 fun t62 H =>
  S233_11 call t55 t57 t62 H) (S233_11 call t55 t57 U H)
noncomputable def S233_13 (call : CallFn) (t55 t57 t60 : AV) (H : AHeap) : R :=
  guardA t55 true (pFa 1 t60 H fun t61 H =>
  S233_12 call t55 t57 t61 H) (S233_12 call t55 t57 U H)
noncomputable def S233_14 (call : CallFn) (t55 t57 t59 : AV) (H : AHeap) : R :=
  guardA t55 true (pFa 0 t59 H fun t60 H =>
  S233_13 call t55 t57 t60 H) (S233_13 call t55 t57 U H)
noncomputable def S233_15 (call : CallFn) (t55 t57 t58 : AV) (H : AHeap) : R :=
  guardA t55 true (pO (aNil t58) H fun t59 H =>
  S233_14 call t55 t57 t59 H) (S233_14 call t55 t57 U H)
noncomputable def S233_16 (call : CallFn) (t0 t55 t57 : AV) (H : AHeap) : R :=
  guardA t55 true (S233_15 call t55 t57 t0 H) (S233_15 call t55 t57 U H)
noncomputable def S233_17 (call : CallFn) (t0 t55 t56 : AV) (H : AHeap) : R :=
  guardA t55 true (ldK .none H t56 fun t57 H =>
  S233_16 call t0 t55 t57 H) (S233_16 call t0 t55 U H)
noncomputable def S233_18 (_ : CallFn) (t71 t80 : AV) (H : AHeap) : R :=
  pPick t71 t80 (.bool false) H fun t81 H =>
  some (t81, H)
noncomputable def S233_19 (call : CallFn) (t71 t73 t79 : AV) (H : AHeap) : R :=
  guardA t71 true (pLss t73 t79 H fun t80 H =>
  S233_18 call t71 t80 H) (S233_18 call t71 U H)
noncomputable def S233_20 (call : CallFn) (t71 t73 t78 : AV) (H : AHeap) : R :=
  guardA t71 true (pO (aLen .sl H t78) H fun t79 H =>
  S233_19 call t71 t73 t79 H) (S233_19 call t71 t73 U H)
noncomputable def S233_21 (call : CallFn) (t71 t73 t77 : AV) (H : AHeap) : R :=
  guardA t71 true (ldK .none H t77 fun t78 H =>
  S233_20 call t71 t73 t78 H) (S233_20 call t71 t73 U H)
noncomputable def S233_22 (call : CallFn) (t71 t73 t76 : AV) (H : AHeap) : R :=
  guardA t71 true (pFa 1 t76 H fun t77 H =>
  S233_21 call t71 t73 t77 H) (S233_21 call t71 t73 U H)
noncomputable def S233_23 (call : CallFn) (t71 t73 t75 : AV) (H : AHeap) : R :=
  guardA t71 true (pFa 0 t75 H fun t76 H =>
  S233_22 call t71 t73 t76 H) (S233_22 call t71 t73 U H)
noncomputable def S233_24 (call : CallFn) (t71 t73 t74 : AV) (H : AHeap) : R :=
  guardA t71 true (pO (aNil t74) H fun t75 H =>
  S233_23 call t71 t73 t75 H) (S233_23 call t71 t73 U H)
noncomputable def S233_25 (call : CallFn) (t0 t71 t73 : AV) (H : AHeap) : R :=
  guardA t71 true (S233_24 call t71 t73 t0 H) (S233_24 call t71 t73 U H)
noncomputable def S233_26 (call : CallFn) (t0 t71 t72 : AV) (H : AHeap) : R :=
  guardA t71 true (ldK .none H t72 fun t73 H =>
  S233_25 call t0 t71 t73 H) (S233_25 call t0 t71 U H)
noncomputable def S233_27 (_ : CallFn) (t92 t95 : AV) (H : AHeap) : R :=
  pPick t92 t95 (.bool false) H fun t96 H =>
  some (t96, H)
noncomputable def S233_28 (_ : CallFn) (t112 t115 : AV) (H : AHeap) : R :=
  pPick t112 t115 (.bool false) H fun t116 H =>
  some (t116, H)
noncomputable def S233_29 (call : CallFn) (t6 t107 t110 : AV) (H : AHeap) : R :=
  pPick t107 t110 (.bool false) H fun t111 H =>
  guardA t111 true (pFa 3 t6 H fun t113 H =>
  ldK .none H t113 fun t114 H =>
  pEql t114 (.int .i64 (.ofNat 0)) H fun t115 H =>
  S233_28 call t111 t115 H) (S233_28 call t111 U H)
noncomputable def S233_30 (_ : CallFn) (t142 t145 : AV) (H : AHeap) : R :=
  pPick t142 t145 (.bool false) H fun t146 H =>
  some (t146, H)
noncomputable def S233_31 (call : CallFn) (t0 : AV) (H : AHeap) : R :=
  pO (aNil t0) H fun t11 H =>
  pFa 17 t11 H fun t12 H =>
  ldK (.some 5) H t12 fun t13 H =>
  pNew [(.int .i64 (.ofNat 0)), (.int .i64 (.ofNat 0)), (.int .i64 (.ofNat 0)), (.int .i64 (.ofNat 0)), (.int .i64 (.ofNat 0))] H fun t3 H =>
  stK 5 H t3 t13 fun _ H =>
  pFa 0 t3 H fun t14 H =>
  ldK .none H t14 fun t15 H =>
  pEql t15 (.int .i64 (.ofNat 0)) H fun t17 H =>
  onBool t17 (pFa 2 t3 H fun t18 H =>
  ldK .none H t18 fun t19 H =>
  pGeq t19 (.int .i64 (.ofNat 0)) H fun t20 H =>
  guardA t20 true (pFa 2 t3 H fun t22 H =>
  S233_8 call t0 t20 t22 H) (S233_8 call t0 t20 U H)) (pEql t15 (.int .i64 (.ofNat 25)) H fun t33 H =>
  onBool t33 (pFa 2 t3 H fun t35 H =>
  ldK .none H t35 fun t36 H =>
  pC call 332 [t0, t36, (.int .i64 (.ofNat 0))] H fun t37 H =>
  some (t37, H)) (pEql t15 (.int .i64 (.ofNat 26)) H fun t39 H =>
  onBool t39 (pFa 2 t3 H fun t41 H =>
  ldK .none H t41 fun t42 H =>
  pC call 332 [t0, t42, (.int .i64 (.ofNat 1))] H fun t43 H =>
  some (t43, H)) (pEql t15 (.int .i64 (.ofNat 37)) H fun t45 H =>
  onBool t45 (pFa 2 t3 H fun t47 H =>
  ldK .none H t47 fun t48 H =>
  pC call 332 [t0, t48, (.int .i64 (.ofNat 3))] H fun t49 H =>
  some (t49, H)) (pEql t15 (.int .i64 (.ofNat 34)) H fun t51 H =>
  onBool t51 (pFa 2 t3 H fun t52 H =>
  ldK .none H t52 fun t53 H =>
  pGeq t53 (.int .i64 (.ofNat 0)) H fun t54 H =>
  guardA t54 true (pFa 2 t3 H fun t56 H =>
  S233_17 call t0 t54 t56 H) (S233_17 call t0 t54 U H)) (pEql t15 (.int .i64 (.ofNat 35)) H fun t67 H =>
  onBool t67 (pFa 1 t3 H fun t68 H =>
  ldK .none H t68 fun t69 H =>
  pGeq t69 (.int .i64 (.ofNat 0)) H fun t70 H =>
  guardA t70 true (pFa 1 t3 H fun t72 H =>
  S233_26 call t0 t70 t72 H) (S233_26 call t0 t70 U H)) (pEql t15 (.int .i64 (.ofNat 20)) H fun t83 H =>
  onBool t83 (pFa 2 t3 H fun t86 H =>
  ldK .none H t86 fun t87 H =>
  pC call 326 [t0, t87] H fun t88 H =>
  pExt t88 0 H fun t89 H =>
  pExt t88 1 H fun t90 H =>
  pNew [(.int .i64 (.ofNat 0)), (.int .i64 (.ofNat 0)), (.int .i64 (.ofNat 0)), (.int .i64 (.ofNat 0)), .nilsl, .nilsl, .nilsl] H fun t4 H =>
  stK 7 H t4 t89 fun _ H =>
  guardA t90 true (pFa 1 t4 H fun t93 H =>
  ldK .none H t93 fun t94 H =>
  pEql t94 (.int .i64 (.ofNat 0)) H fun t95 H =>
  S233_27 call t90 t95 H) (S233_27 call t90 U H)) (pEql t15 (.int .i64 (.ofNat 23)) H fun t98 H =>
  onBool t98 (pFa 1 t3 H fun t101 H =>
  ldK .none H t101 fun t102 H =>
  pC call 326 [t0, t102] H fun t103 H =>
  pExt t103 0 H fun t104 H =>
  pExt t103 1 H fun t105 H =>
  pNew [(.int .i64 (.ofNat 0)), (.int .i64 (.ofNat 0)), (.int .i64 (.ofNat 0)), (.int .i64 (.ofNat 0)), .nilsl, .nilsl, .nilsl] H fun t6 H =>
  stK 7 H t6 t104 fun _ H =>
  guardA t105 true (pFa 1 t6 H fun t108 H =>
  ldK .none H t108 fun t109 H =>
  pEql t109 (.int .i64 (.ofNat 0)) H fun t110 H =>
  S233_29 call t6 t105 t110 H) (S233_29 call t6 t105 U H)) (pEql t15 (.int .i64 (.ofNat 36)) H fun t118 H =>
  onBool t118 (pFa 2 t3 H fun t121 H =>
  ldK .none H t121 fun t122 H =>
  pC call 326 [t0, t122] H fun t123 H =>
  pExt t123 0 H fun t124 H =>
  pExt t123 1 H fun t125 H =>
  pNew [(.int .i64 (.ofNat 0)), (.int .i64 (.ofNat 0)), (.int .i64 (.ofNat 0)), (.int .i64 (.ofNat 0)), .nilsl, .nilsl, .nilsl] H fun t8 H =>
  stK 7 H t8 t124 fun _ H =>
  some (t125, H)) (pEql t15 (.int .i64 (.ofNat 21)) H fun t128 H =>
  onBool t128 (pFa 4 t3 H fun t129 H =>
  ldK .none H t129 fun t130 H =>
  pGeq t130 (.int .i64 (.ofNat 0)) H fun t131 H =>
  some (t131, H)) (pEql t15 (.int .i64 (.ofNat 24)) H fun t133 H =>
  onBool t133 (pFa 3 t3 H fun t134 H =>
  ldK .none H t134 fun t135 H =>
  pGeq t135 (.int .i64 (.ofNat 0)) H fun t136 H =>
  some (t136, H)) (pEql t15 (.int .i64 (.ofNat 44)) H fun t138 H =>
  onBool t138 (pFa 1 t3 H fun t139 H =>
  ldK .none H t139 fun t140 H =>
  pGeq t140 (.int .i64 (.ofNat 1)) H fun t141 H =>
  guardA t141 true (pFa 1 t3 H fun t143 H =>
  ldK .none H t143 fun t144 H =>
  pLeq t144 (.int .i64 (.ofNat 6)) H fun t145 H =>
  S233_30 call t141 t145 H) (S233_30 call t141 U H)) (pEql t15 (.int .i64 (.ofNat 41)) H fun t148 H =>
  onBool t148 (pC call 333 [t0] H fun t150 H =>
  some (t150, H)) (some ((.bool true), H))))))))))))))
noncomputable def S233 : Ff := ⟨fun call l H => argA1 (fun t0 => S233_31 call t0 H) l⟩
/- (*gantline/verify.checker).kinds -/
noncomputable def S234_0 (_ : CallFn) (t86 t93 : AV) (H : AHeap) : R :=
  pPick t86 t93 (.bool false) H fun t94 H =>
  some (t94, H)
noncomputable def S234_1 (_ : CallFn) (t117 t122 : AV) (H : AHeap) : R :=
  pPick t117 t122 (.bool false) H fun t123 H =>
  some (t123, H)
noncomputable def S234_2 (_ : CallFn) (t164 t169 : AV) (H : AHeap) : R :=
  pPick t164 t169 (.bool false) H fun t170 H =>
  some (t170, H)
noncomputable def S234_3 (_ : CallFn) (t183 t188 : AV) (H : AHeap) : R :=
  pPick t183 t188 (.bool false) H fun t189 H =>
  some (t189, H)
noncomputable def S234_4 (_ : CallFn) (t198 t203 : AV) (H : AHeap) : R :=
  pPick t198 t203 (.bool false) H fun t204 H =>
  some (t204, H)
noncomputable def S234_5 (_ : CallFn) (t247 t257 : AV) (H : AHeap) : R :=
  pPick t247 t257 (.bool false) H fun t258 H =>
  some (t258, H)
noncomputable def S234_6 (call : CallFn) (t247 t251 t256 : AV) (H : AHeap) : R :=
  guardA t247 true (pPick t251 (.bool true) t256 H fun t257 H =>
  S234_5 call t247 t257 H) (S234_5 call t247 U H)
noncomputable def S234_7 (call : CallFn) (t1 t3 t247 t251 : AV) (H : AHeap) : R :=
  guardA t251 false (ldK .none H t1 fun t252 H =>
  pFa 3 t3 H fun t253 H =>
  ldK .none H t253 fun t254 H =>
  pN (aBsl 1 1 [(.int .i64 (.ofNat 0))] [(0, 1, t254)]) H fun t255 H =>
  pC call 334 [t252, (.bool false), t255] H fun t256 H =>
  S234_6 call t247 t251 t256 H) (S234_6 call t247 t251 U H)
noncomputable def S234_8 (call : CallFn) (t1 t3 t4 t174 t176 : AV) (H : AHeap) : R :=
  pPick t174 (.bool true) t176 H fun t177 H =>
  onBool t177 (ldK .none H t1 fun t178 H =>
  pFa 1 t3 H fun t179 H =>
  ldK .none H t179 fun t180 H =>
  pN (aBsl 1 1 [(.int .i64 (.ofNat 0))] [(0, 1, t180)]) H fun t181 H =>
  pC call 334 [t178, (.bool true), t181] H fun t182 H =>
  guardA t182 true (ldK .none H t1 fun t184 H =>
  pFa 2 t3 H fun t185 H =>
  ldK .none H t185 fun t186 H =>
  pN (aBsl 1 1 [(.int .i64 (.ofNat 0))] [(0, 1, t186)]) H fun t187 H =>
  pC call 334 [t184, (.bool false), t187] H fun t188 H =>
  S234_3 call t182 t188 H) (S234_3 call t182 U H)) (pEql t4 (.int .i64 (.ofNat 33)) H fun t192 H =>
  onBool t192 (ldK .none H t1 fun t193 H =>
  pFa 1 t3 H fun t194 H =>
  ldK .none H t194 fun t195 H =>
  pN (aBsl 1 1 [(.int .i64 (.ofNat 0))] [(0, 1, t195)]) H fun t196 H =>
  pC call 334 [t193, (.bool false), t196] H fun t197 H =>
  guardA t197 true (ldK .none H t1 fun t199 H =>
  pFa 2 t3 H fun t200 H =>
  ldK .none H t200 fun t201 H =>
  pN (aBsl 1 1 [(.int .i64 (.ofNat 0))] [(0, 1, t201)]) H fun t202 H =>
  pC call 334 [t199, (.bool true), t202] H fun t203 H =>
  S234_4 call t197 t203 H) (S234_4 call t197 U H)) (pEql t4 (.int .i64 (.ofNat 34)) H fun t207 H =>
  onBool t207 (ldK .none H t1 fun t208 H =>
  ldK .none H t1 fun t209 H =>
  pO (aNil t209) H fun t210 H =>
  pFa 0 t210 H fun t211 H =>
  pFa 1 t211 H fun t212 H =>
  ldK .none H t212 fun t213 H =>
  pFa 2 t3 H fun t214 H =>
  ldK .none H t214 fun t215 H =>
  pIa 1 t213 t215 H fun t216 H =>
  ldK .none H t216 fun t217 H =>
  pFa 1 t3 H fun t218 H =>
  ldK .none H t218 fun t219 H =>
  pN (aBsl 1 1 [(.int .i64 (.ofNat 0))] [(0, 1, t219)]) H fun t220 H =>
  pC call 334 [t208, t217, t220] H fun t221 H =>
  some (t221, H)) (pEql t4 (.int .i64 (.ofNat 35)) H fun t224 H =>
  onBool t224 (ldK .none H t1 fun t225 H =>
  ldK .none H t1 fun t226 H =>
  pO (aNil t226) H fun t227 H =>
  pFa 0 t227 H fun t228 H =>
  pFa 1 t228 H fun t229 H =>
  ldK .none H t229 fun t230 H =>
  pFa 1 t3 H fun t231 H =>
  ldK .none H t231 fun t232 H =>
  pIa 1 t230 t232 H fun t233 H =>
  ldK .none H t233 fun t234 H =>
  pFa 2 t3 H fun t235 H =>
  ldK .none H t235 fun t236 H =>
  pN (aBsl 1 1 [(.int .i64 (.ofNat 0))] [(0, 1, t236)]) H fun t237 H =>
  pC call 334 [t225, t234, t237] H fun t238 H =>
  some (t238, H)) (pEql t4 (.int .i64 (.ofNat 39)) H fun t241 H =>
  onBool t241 (ldK .none H t1 fun t242 H =>
  pFa 2 t3 H fun t243 H =>
  ldK .none H t243 fun t244 H =>
  pN (aBsl 1 1 [(.int .i64 (.ofNat 0))] [(0, 1, t244)]) H fun t245 H =>
  pC call 334 [t242, (.bool true), t245] H fun t246 H =>
  guardA t246 true (pFa 3 t3 H fun t248 H =>
  ldK .none H t248 fun t249 H =>
  pEql t249 (.int .i64 (.negSucc 0)) H fun t250 H =>
  S234_7 call t1 t3 t246 t250 H) (S234_7 call t1 t3 t246 U H)) (pEql t4 (.int .i64 (.ofNat 41)) H fun t261 H =>
  onBool t261 (ldK .none H t1 fun t263 H =>
  pC call 327 [t263] H fun t264 H =>
  pExt t264 0 H fun t265 H =>
  pExt t264 1 H fun _ H =>
  pC call 328 [t265, (.fn 335 [] [t1])] H fun t269 H =>
  pO (aUn .not t269) H fun t270 H =>
  some (t270, H)) (ldK .none H t1 fun t271 H =>
  pC call 336 [t271] H fun t272 H =>
  some (t272, H)))))))
noncomputable def S234_9 (call : CallFn) (t1 t3 t4 t147 t149 : AV) (H : AHeap) : R :=
  pPick t147 (.bool true) t149 H fun t150 H =>
  onBool t150 (ldK .none H t1 fun t151 H =>
  pFa 1 t3 H fun t152 H =>
  ldK .none H t152 fun t153 H =>
  pN (aBsl 1 1 [(.int .i64 (.ofNat 0))] [(0, 1, t153)]) H fun t154 H =>
  pC call 334 [t151, (.bool true), t154] H fun t155 H =>
  some (t155, H)) (pEql t4 (.int .i64 (.ofNat 30)) H fun t158 H =>
  onBool t158 (ldK .none H t1 fun t159 H =>
  pFa 2 t3 H fun t160 H =>
  ldK .none H t160 fun t161 H =>
  pN (aBsl 1 1 [(.int .i64 (.ofNat 0))] [(0, 1, t161)]) H fun t162 H =>
  pC call 334 [t159, (.bool true), t162] H fun t163 H =>
  guardA t163 true (ldK .none H t1 fun t165 H =>
  pFa 3 t3 H fun t166 H =>
  ldK .none H t166 fun t167 H =>
  pN (aBsl 1 1 [(.int .i64 (.ofNat 0))] [(0, 1, t167)]) H fun t168 H =>
  pC call 334 [t165, (.bool false), t168] H fun t169 H =>
  S234_2 call t163 t169 H) (S234_2 call t163 U H)) (pEql t4 (.int .i64 (.ofNat 31)) H fun t173 H =>
  guardA t173 false (pEql t4 (.int .i64 (.ofNat 32)) H fun t176 H =>
  S234_8 call t1 t3 t4 t173 t176 H) (S234_8 call t1 t3 t4 t173 U H)))
noncomputable def S234_10 (call : CallFn) (t1 t3 t4 t143 t145 : AV) (H : AHeap) : R :=
  pPick t143 (.bool true) t145 H fun t146 H =>
  guardA t146 false (pEql t4 (.int .i64 (.ofNat 38)) H fun t149 H =>
  S234_9 call t1 t3 t4 t146 t149 H) (S234_9 call t1 t3 t4 t146 U H)
noncomputable def S234_11 (call : CallFn) (t1 t3 t4 t139 t141 : AV) (H : AHeap) : R :=
  pPick t139 (.bool true) t141 H fun t142 H =>
  guardA t142 false (pEql t4 (.int .i64 (.ofNat 24)) H fun t145 H =>
  S234_10 call t1 t3 t4 t142 t145 H) (S234_10 call t1 t3 t4 t142 U H)
noncomputable def S234_12 (call : CallFn) (t1 t3 t4 t127 t129 : AV) (H : AHeap) : R :=
  pPick t127 (.bool true) t129 H fun t130 H =>
  onBool t130 (ldK .none H t1 fun t131 H =>
  pFa 2 t3 H fun t132 H =>
  ldK .none H t132 fun t133 H =>
  pN (aBsl 1 1 [(.int .i64 (.ofNat 0))] [(0, 1, t133)]) H fun t134 H =>
  pC call 334 [t131, (.bool true), t134] H fun t135 H =>
  some (t135, H)) (pEql t4 (.int .i64 (.ofNat 28)) H fun t138 H =>
  guardA t138 false (pEql t4 (.int .i64 (.ofNat 29)) H fun t141 H =>
  S234_11 call t1 t3 t4 t138 t141 H) (S234_11 call t1 t3 t4 t138 U H))
noncomputable def S234_13 (call : CallFn) (t1 t3 t4 t108 t110 : AV) (H : AHeap) : R :=
  pPick t108 (.bool true) t110 H fun t111 H =>
  onBool t111 (ldK .none H t1 fun t112 H =>
  pFa 1 t3 H fun t113 H =>
  ldK .none H t113 fun t114 H =>
  pN (aBsl 1 1 [(.int .i64 (.ofNat 0))] [(0, 1, t114)]) H fun t115 H =>
  pC call 334 [t112, (.bool true), t115] H fun t116 H =>
  guardA t116 true (ldK .none H t1 fun t118 H =>
  pFa 3 t3 H fun t119 H =>
  ldK .none H t119 fun t120 H =>
  pN (aBsl 1 1 [(.int .i64 (.ofNat 0))] [(0, 1, t120)]) H fun t121 H =>
  pC call 334 [t118, (.bool false), t121] H fun t122 H =>
  S234_1 call t116 t122 H) (S234_1 call t116 U H)) (pEql t4 (.int .i64 (.ofNat 27)) H fun t126 H =>
  guardA t126 false (pEql t4 (.int .i64 (.ofNat 21)) H fun t129 H =>
  S234_12 call t1 t3 t4 t126 t129 H) (S234_12 call t1 t3 t4 t126 U H))
noncomputable def S234_14 (call : CallFn) (t1 t3 t4 t65 t67 : AV) (H : AHeap) : R :=
  pPick t65 t67 (.bool false) H fun t68 H =>
  onBool t68 (ldK .none H t1 fun t69 H =>
  pFa 1 t3 H fun t70 H =>
  ldK .none H t70 fun t71 H =>
  pFa 2 t3 H fun t72 H =>
  ldK .none H t72 fun t73 H =>
  pFa 3 t3 H fun t74 H =>
  ldK .none H t74 fun t75 H =>
  pN (aBsl 1 3 [(.int .i64 (.ofNat 0))] [(0, 1, t71), (1, 1, t73), (2, 1, t75)]) H fun t76 H =>
  pC call 334 [t69, (.bool false), t76] H fun t77 H =>
  some (t77, H)) (pEql t4 (.int .i64 (.ofNat 16)) H fun t80 H =>
  onBool t80 (ldK .none H t1 fun t81 H =>
  pFa 1 t3 H fun t82 H =>
  ldK .none H t82 fun t83 H =>
  pN (aBsl 1 1 [(.int .i64 (.ofNat 0))] [(0, 1, t83)]) H fun t84 H =>
  pC call 334 [t81, (.bool false), t84] H fun t85 H =>
  guardA t85 true (ldK .none H t1 fun t87 H =>
  pFa 2 t3 H fun t88 H =>
  ldK .none H t88 fun t89 H =>
  pFa 3 t3 H fun t90 H =>
  ldK .none H t90 fun t91 H =>
  pN (aBsl 1 2 [(.int .i64 (.ofNat 0))] [(0, 1, t89), (1, 1, t91)]) H fun t92 H =>
  pC call 334 [t87, (.bool true), t92] H fun t93 H =>
  S234_0 call t85 t93 H) (S234_0 call t85 U H)) (pEql t4 (.int .i64 (.ofNat 17)) H fun t97 H =>
  onBool t97 (ldK .none H t1 fun t98 H =>
  pFa 1 t3 H fun t99 H =>
  ldK .none H t99 fun t100 H =>
  pFa 2 t3 H fun t101 H =>
  ldK .none H t101 fun t102 H =>
  pN (aBsl 1 2 [(.int .i64 (.ofNat 0))] [(0, 1, t100), (1, 1, t102)]) H fun t103 H =>
  pC call 334 [t98, (.bool false), t103] H fun t104 H =>
  some (t104, H)) (pEql t4 (.int .i64 (.ofNat 26)) H fun t107 H =>
  guardA t107 false (pEql t4 (.int .i64 (.ofNat 37)) H fun t110 H =>
  S234_13 call t1 t3 t4 t107 t110 H) (S234_13 call t1 t3 t4 t107 U H))))
noncomputable def S234_15 (call : CallFn) (t1 t3 t4 t53 t55 : AV) (H : AHeap) : R :=
  pPick t53 (.bool true) t55 H fun t56 H =>
  onBool t56 (ldK .none H t1 fun t57 H =>
  pFa 1 t3 H fun t58 H =>
  ldK .none H t58 fun t59 H =>
  pN (aBsl 1 1 [(.int .i64 (.ofNat 0))] [(0, 1, t59)]) H fun t60 H =>
  pC call 334 [t57, (.bool true), t60] H fun t61 H =>
  some (t61, H)) (pGeq t4 (.int .i64 (.ofNat 3)) H fun t64 H =>
  guardA t64 true (pLeq t4 (.int .i64 (.ofNat 15)) H fun t67 H =>
  S234_14 call t1 t3 t4 t64 t67 H) (S234_14 call t1 t3 t4 t64 U H))
noncomputable def S234_16 (call : CallFn) (t1 t3 t4 t49 t51 : AV) (H : AHeap) : R :=
  pPick t49 (.bool true) t51 H fun t52 H =>
  guardA t52 false (pEql t4 (.int .i64 (.ofNat 40)) H fun t55 H =>
  S234_15 call t1 t3 t4 t52 t55 H) (S234_15 call t1 t3 t4 t52 U H)
noncomputable def S234_17 (call : CallFn) (t1 t3 t4 t20 t22 : AV) (H : AHeap) : R :=
  pPick t20 (.bool true) t22 H fun t23 H =>
  onBool t23 (ldK .none H t1 fun t24 H =>
  pFa 1 t3 H fun t25 H =>
  ldK .none H t25 fun t26 H =>
  pN (aBsl 1 1 [(.int .i64 (.ofNat 0))] [(0, 1, t26)]) H fun t27 H =>
  pC call 334 [t24, (.bool false), t27] H fun t28 H =>
  some (t28, H)) (pEql t4 (.int .i64 (.ofNat 1)) H fun t31 H =>
  onBool t31 (ldK .none H t1 fun t32 H =>
  ldK .none H t1 fun t33 H =>
  pO (aNil t33) H fun t34 H =>
  pFa 6 t34 H fun t35 H =>
  pFa 4 t35 H fun t36 H =>
  ldK .none H t36 fun t37 H =>
  pFa 2 t3 H fun t38 H =>
  ldK .none H t38 fun t39 H =>
  pIa 1 t37 t39 H fun t40 H =>
  ldK .none H t40 fun t41 H =>
  pFa 1 t3 H fun t42 H =>
  ldK .none H t42 fun t43 H =>
  pN (aBsl 1 1 [(.int .i64 (.ofNat 0))] [(0, 1, t43)]) H fun t44 H =>
  pC call 334 [t32, t41, t44] H fun t45 H =>
  some (t45, H)) (pEql t4 (.int .i64 (.ofNat 2)) H fun t48 H =>
  guardA t48 false (pEql t4 (.int .i64 (.ofNat 25)) H fun t51 H =>
  S234_16 call t1 t3 t4 t48 t51 H) (S234_16 call t1 t3 t4 t48 U H)))
noncomputable def S234_18 (call : CallFn) (t1 t3 t4 t16 t18 : AV) (H : AHeap) : R :=
  pPick t16 (.bool true) t18 H fun t19 H =>
  guardA t19 false (pEql t4 (.int .i64 (.ofNat 42)) H fun t22 H =>
  S234_17 call t1 t3 t4 t19 t22 H) (S234_17 call t1 t3 t4 t19 U H)
noncomputable def S234_19 (call : CallFn) (t0 : AV) (H : AHeap) : R :=
  pBox t0 H fun t1 H =>
  ldK .none H t1 fun t7 H =>
  pO (aNil t7) H fun t8 H =>
  pFa 17 t8 H fun t9 H =>
  ldK (.some 5) H t9 fun t10 H =>
  pNew [(.int .i64 (.ofNat 0)), (.int .i64 (.ofNat 0)), (.int .i64 (.ofNat 0)), (.int .i64 (.ofNat 0)), (.int .i64 (.ofNat 0))] H fun t3 H =>
  stK 5 H t3 t10 fun _ H =>
  pFa 0 t3 H fun t11 H =>
  ldK .none H t11 fun t12 H =>
  pEql t12 (.int .i64 (.ofNat 0)) H fun t15 H =>
  guardA t15 false (pEql t12 (.int .i64 (.ofNat 19)) H fun t18 H =>
  S234_18 call t1 t3 t12 t15 t18 H) (S234_18 call t1 t3 t12 t15 U H)
noncomputable def S234 : Ff := ⟨fun call l H => argA1 (fun t0 => S234_19 call t0 H) l⟩
/- (*gantline/verify.checker).on -/
noncomputable def S235_0 (_ : CallFn) (t42 : AV) (H : AHeap) : R :=
  onBool t42 (some ((.bool true), H)) (some ((.bool false), H))
noncomputable def S235_1 (call : CallFn) (t0 : AV) (H : AHeap) : R :=
  pO (aNil t0) H fun t26 H =>
  pFa 16 t26 H fun t27 H =>
  ldK .none H t27 fun t28 H =>
  pO (aNil t0) H fun t30 H =>
  pFa 6 t30 H fun t31 H =>
  pFa 5 t31 H fun t32 H =>
  ldK .none H t32 fun t33 H =>
  pO (aLen .sl H t33) H fun t34 H =>
  pSub t34 (.int .i64 (.ofNat 1)) H fun t35 H =>
  pLss t28 t35 H fun t36 H =>
  onBool t36 (some ((.bool true), H)) (pO (aNil t0) H fun t38 H =>
  pFa 17 t38 H fun t39 H =>
  pFa 0 t39 H fun t40 H =>
  ldK .none H t40 fun t41 H =>
  pEql t41 (.int .i64 (.ofNat 18)) H fun t43 H =>
  onBool t43 (S235_0 call t43 H) (pEql t41 (.int .i64 (.ofNat 22)) H fun t44 H =>
  onBool t44 (S235_0 call t44 H) (pEql t41 (.int .i64 (.ofNat 44)) H fun t45 H =>
  onBool t45 (S235_0 call t45 H) (pEql t41 (.int .i64 (.ofNat 41)) H fun t46 H =>
  S235_0 call t46 H))))
noncomputable def S235_3 (_ : CallFn) (q0 : AV → AV → AV → AV → AHeap → R) (t0 t6 t7 t8 t14 t22 : AV) (H : AHeap) : R :=
  pPick t14 (.bool true) t22 H fun t23 H =>
  onBool t23 (some ((.bool false), H)) (pAdd t8 (.int .i64 (.ofNat 1)) H fun t24 H =>
  q0 t0 t6 t7 t24 H)
noncomputable def S235_2 (call : CallFn) (n : Nat) : AV → AV → AV → AV → AHeap → R :=
  Nat.rec (motive := fun _ => AV → AV → AV → AV → AHeap → R) (fun _ _ _ _ _ => none) (fun _ q0 t0 t6 t7 t8 H => pLss t8 t7 H fun t9 H =>
  onBool t9 (pIa 1 t6 t8 H fun t10 H =>
  ldK .none H t10 fun t11 H =>
  pLss t11 (.int .i64 (.ofNat 0)) H fun t13 H =>
  guardA t13 false (pO (aNil t0) H fun t17 H =>
  pFa 6 t17 H fun t18 H =>
  pFa 5 t18 H fun t19 H =>
  ldK .none H t19 fun t20 H =>
  pO (aLen .sl H t20) H fun t21 H =>
  pGeq t11 t21 H fun t22 H =>
  S235_3 call q0 t0 t6 t7 t8 t13 t22 H) (S235_3 call q0 t0 t6 t7 t8 t13 U H)) (S235_1 call t0 H)) n
noncomputable def S235_4 (call : CallFn) (t0 : AV) (H : AHeap) : R :=
  pC call 337 [t0] H fun t6 H =>
  pO (aLen .sl H t6) H fun t7 H =>
  S235_2 call 1000000 t0 t6 t7 (.int .i64 (.ofNat 0)) H
noncomputable def S235 : Ff := ⟨fun call l H => argA1 (fun t0 => S235_4 call t0 H) l⟩
/- (*gantline/verify.checker).back -/
noncomputable def S236_1 (_ : CallFn) (q0 : AV → AV → AV → AV → AHeap → R) (t0 t6 t7 t8 t18 t28 : AV) (H : AHeap) : R :=
  pPick t18 t28 (.bool false) H fun t29 H =>
  onBool t29 (some ((.bool false), H)) (pAdd t8 (.int .i64 (.ofNat 1)) H fun t30 H =>
  q0 t0 t6 t7 t30 H)
noncomputable def S236_0 (call : CallFn) (n : Nat) : AV → AV → AV → AV → AHeap → R :=
  Nat.rec (motive := fun _ => AV → AV → AV → AV → AHeap → R) (fun _ _ _ _ _ => none) (fun _ q0 t0 t6 t7 t8 H => pLss t8 t7 H fun t9 H =>
  onBool t9 (pIa 1 t6 t8 H fun t10 H =>
  ldK .none H t10 fun t11 H =>
  pO (aNil t0) H fun t14 H =>
  pFa 16 t14 H fun t15 H =>
  ldK .none H t15 fun t16 H =>
  pLeq t11 t16 H fun t17 H =>
  guardA t17 true (pO (aNil t0) H fun t20 H =>
  pFa 6 t20 H fun t21 H =>
  pFa 5 t21 H fun t22 H =>
  ldK .none H t22 fun t23 H =>
  pIa 5 t23 t11 H fun t25 H =>
  pFa 0 t25 H fun t26 H =>
  ldK .none H t26 fun t27 H =>
  pNeq t27 (.int .i64 (.ofNat 43)) H fun t28 H =>
  S236_1 call q0 t0 t6 t7 t8 t17 t28 H) (S236_1 call q0 t0 t6 t7 t8 t17 U H)) (some ((.bool true), H))) n
noncomputable def S236_2 (call : CallFn) (t0 : AV) (H : AHeap) : R :=
  pC call 337 [t0] H fun t6 H =>
  pO (aLen .sl H t6) H fun t7 H =>
  S236_0 call 1000000 t0 t6 t7 (.int .i64 (.ofNat 0)) H
noncomputable def S236 : Ff := ⟨fun call l H => argA1 (fun t0 => S236_2 call t0 H) l⟩
/- (*gantline/verify.checker).bare -/
noncomputable def S237_0 (call : CallFn) (t0 : AV) (H : AHeap) : R :=
  pO (aNil t0) H fun t35 H =>
  pFa 6 t35 H fun t36 H =>
  ldK (.some 7) H t36 fun t37 H =>
  pO (aNil t0) H fun t39 H =>
  pFa 14 t39 H fun t40 H =>
  ldK .none H t40 fun t41 H =>
  pO (aNil t0) H fun t43 H =>
  pFa 16 t43 H fun t44 H =>
  ldK .none H t44 fun t45 H =>
  pC call 88 [t37, t41, t45] H fun t46 H =>
  some (t46, H)
noncomputable def S237_1 (call : CallFn) (t0 t9 t15 : AV) (H : AHeap) : R :=
  pPick t9 t15 (.bool false) H fun t16 H =>
  onBool t16 (some ((.bool true), H)) (pO (aNil t0) H fun t18 H =>
  pFa 14 t18 H fun t19 H =>
  ldK .none H t19 fun t20 H =>
  pO (aEq false .sl t20 .nilsl) H fun t21 H =>
  onBool t21 (pO (aNil t0) H fun t24 H =>
  pFa 0 t24 H fun t25 H =>
  ldK (.some 6) H t25 fun t26 H =>
  pO (aNil t0) H fun t28 H =>
  pFa 6 t28 H fun t29 H =>
  ldK (.some 7) H t29 fun t30 H =>
  pC call 87 [t26, t30] H fun t31 H =>
  pO (aNil t0) H fun t32 H =>
  pFa 14 t32 H fun t33 H =>
  stK 1 H t33 t31 fun _ H =>
  S237_0 call t0 H) (S237_0 call t0 H))
noncomputable def S237_2 (call : CallFn) (t0 : AV) (H : AHeap) : R :=
  pO (aNil t0) H fun t4 H =>
  pFa 17 t4 H fun t5 H =>
  pFa 0 t5 H fun t6 H =>
  ldK .none H t6 fun t7 H =>
  pNeq t7 (.int .i64 (.ofNat 29)) H fun t8 H =>
  guardA t8 true (pO (aNil t0) H fun t11 H =>
  pFa 17 t11 H fun t12 H =>
  pFa 0 t12 H fun t13 H =>
  ldK .none H t13 fun t14 H =>
  pNeq t14 (.int .i64 (.ofNat 32)) H fun t15 H =>
  S237_1 call t0 t8 t15 H) (S237_1 call t0 t8 U H)
noncomputable def S237 : Ff := ⟨fun call l H => argA1 (fun t0 => S237_2 call t0 H) l⟩
/- gantline/live.Sets$1 -/
noncomputable def S238_0 (_ : CallFn) (n : Nat) : AV → AV → AV → AV → AV → AHeap → R :=
  Nat.rec (motive := fun _ => AV → AV → AV → AV → AV → AHeap → R) (fun _ _ _ _ _ _ => none) (fun _ q0 t3 t6 t64 t65 t66 H => pLss t66 t65 H fun t67 H =>
  onBool t67 (pIa 1 t64 t66 H fun t68 H =>
  ldK .none H t68 fun t69 H =>
  ldK .none H t3 fun t71 H =>
  pIa 1 t71 t69 H fun t73 H =>
  ldK .none H t73 fun t74 H =>
  pOr t6 t74 H fun t75 H =>
  pAdd t66 (.int .i64 (.ofNat 1)) H fun t76 H =>
  q0 t3 t75 t64 t65 t76 H) (some (t6, H))) n
noncomputable def S238_1 (call : CallFn) (t0 t1 t2 t3 t6 : AV) (H : AHeap) : R :=
  ldK (.some 6) H t2 fun t61 H =>
  ldK (.some 7) H t1 fun t62 H =>
  pC call 157 [t61, t62, t0] H fun t64 H =>
  pO (aLen .sl H t64) H fun t65 H =>
  S238_0 call 1000000 t3 t6 t64 t65 (.int .i64 (.ofNat 0)) H
noncomputable def S238_3 (_ : CallFn) (q1 : AV → AV → AV → AV → AV → AV → AHeap → R) (t1 t3 t6 t23 t24 t25 : AV) (H : AHeap) : R :=
  pAdd t25 (.int .i64 (.ofNat 1)) H fun t59 H =>
  q1 t1 t3 t6 t23 t24 t59 H
noncomputable def S238_4 (call : CallFn) (q1 : AV → AV → AV → AV → AV → AV → AHeap → R) (t1 t3 t6 t9 t23 t24 t25 t32 t38 : AV) (H : AHeap) : R :=
  pPick t32 (.bool true) t38 H fun t39 H =>
  onBool t39 (S238_3 call q1 t1 t3 t6 t23 t24 t25 H) (ldK .none H t3 fun t40 H =>
  pFa 3 t9 H fun t41 H =>
  ldK .none H t41 fun t42 H =>
  pIa 1 t40 t42 H fun t43 H =>
  ldK .none H t43 fun t44 H =>
  pFa 0 t9 H fun t45 H =>
  ldK .none H t45 fun t46 H =>
  pEql t46 (.int .i64 (.ofNat 0)) H fun t47 H =>
  onBool t47 (pFa 2 t9 H fun t50 H =>
  ldK .none H t50 fun t51 H =>
  pN (aBsl 1 1 [(.int .i64 (.ofNat 0))] [(0, 1, t51)]) H fun t52 H =>
  pC call 240 [t52] H fun t53 H =>
  pAndN t44 t53 H fun t54 H =>
  pOr t6 t54 H fun t55 H =>
  S238_3 call q1 t1 t3 t55 t23 t24 t25 H) (pOr t6 t44 H fun t58 H =>
  S238_3 call q1 t1 t3 t58 t23 t24 t25 H))
noncomputable def S238_2 (call : CallFn) (n : Nat) : AV → AV → AV → AV → AV → AV → AHeap → R :=
  Nat.rec (motive := fun _ => AV → AV → AV → AV → AV → AV → AHeap → R) (fun _ _ _ _ _ _ _ => none) (fun _ q1 t1 t3 t6 t23 t24 t25 H => pLss t25 t24 H fun t26 H =>
  onBool t26 (pIa 4 t23 t25 H fun t27 H =>
  ldK (.some 4) H t27 fun t28 H =>
  pNew [(.int .i64 (.ofNat 0)), (.int .i64 (.ofNat 0)), (.int .i64 (.ofNat 0)), (.int .i64 (.ofNat 0))] H fun t9 H =>
  stK 4 H t9 t28 fun _ H =>
  pFa 3 t9 H fun t29 H =>
  ldK .none H t29 fun t30 H =>
  pLss t30 (.int .i64 (.ofNat 0)) H fun t31 H =>
  guardA t31 false (pFa 3 t9 H fun t33 H =>
  ldK .none H t33 fun t34 H =>
  pFa 5 t1 H fun t35 H =>
  ldK .none H t35 fun t36 H =>
  pO (aLen .sl H t36) H fun t37 H =>
  pGeq t34 t37 H fun t38 H =>
  S238_4 call q1 t1 t3 t6 t9 t23 t24 t25 t31 t38 H) (S238_4 call q1 t1 t3 t6 t9 t23 t24 t25 t31 U H)) (some (t6, H))) n
noncomputable def S238_5 (call : CallFn) (t0 t1 t2 t3 : AV) (H : AHeap) : R :=
  pFa 5 t1 H fun t13 H =>
  ldK .none H t13 fun t14 H =>
  pIa 5 t14 t0 H fun t16 H =>
  ldK (.some 5) H t16 fun t17 H =>
  pNew [(.int .i64 (.ofNat 0)), (.int .i64 (.ofNat 0)), (.int .i64 (.ofNat 0)), (.int .i64 (.ofNat 0)), (.int .i64 (.ofNat 0))] H fun t7 H =>
  stK 5 H t7 t17 fun _ H =>
  pFa 0 t7 H fun t18 H =>
  ldK .none H t18 fun t19 H =>
  pEql t19 (.int .i64 (.ofNat 41)) H fun t20 H =>
  onBool t20 (ldK (.some 6) H t2 fun t21 H =>
  ldK (.some 5) H t7 fun t22 H =>
  pC call 239 [t21, t22] H fun t23 H =>
  pO (aLen .sl H t23) H fun t24 H =>
  S238_2 call 1000000 t1 t3 (.int .u64 (.ofNat 0)) t23 t24 (.int .i64 (.ofNat 0)) H) (S238_1 call t0 t1 t2 t3 (.int .u64 (.ofNat 0)) H)
noncomputable def S238 : Ff := ⟨fun call l H => argA4 (fun t0 t1 t2 t3 => S238_5 call t0 t1 t2 t3 H) l⟩
/- gantline/live.bitsOf -/
noncomputable def S240_1 (_ : CallFn) (q0 : AV → AV → AV → AV → AHeap → R) (t3 t6 t7 t8 : AV) (H : AHeap) : R :=
  pAdd t8 (.int .i64 (.ofNat 1)) H fun t23 H =>
  q0 t3 t6 t7 t23 H
noncomputable def S240_2 (call : CallFn) (q0 : AV → AV → AV → AV → AHeap → R) (t3 t5 t6 t7 t8 t14 t16 : AV) (H : AHeap) : R :=
  pPick t14 t16 (.bool false) H fun t17 H =>
  onBool t17 (pConv .u64 t5 H fun t20 H =>
  pO (aBin .shl (.int .u64 (.ofNat 1)) t20) H fun t21 H =>
  pOr t3 t21 H fun t22 H =>
  S240_1 call q0 t22 t6 t7 t8 H) (S240_1 call q0 t3 t6 t7 t8 H)
noncomputable def S240_0 (call : CallFn) (n : Nat) : AV → AV → AV → AV → AHeap → R :=
  Nat.rec (motive := fun _ => AV → AV → AV → AV → AHeap → R) (fun _ _ _ _ _ => none) (fun _ q0 t3 t6 t7 t8 H => pLss t8 t7 H fun t9 H =>
  onBool t9 (pIa 1 t6 t8 H fun t10 H =>
  ldK .none H t10 fun t11 H =>
  pGeq t11 (.int .i64 (.ofNat 0)) H fun t13 H =>
  guardA t13 true (pLss t11 (.int .i64 (.ofNat 64)) H fun t16 H =>
  S240_2 call q0 t3 t11 t6 t7 t8 t13 t16 H) (S240_2 call q0 t3 t11 t6 t7 t8 t13 U H)) (some (t3, H))) n
noncomputable def S240_3 (call : CallFn) (t0 : AV) (H : AHeap) : R :=
  pO (aLen .sl H t0) H fun t7 H =>
  S240_0 call 1000000 (.int .u64 (.ofNat 0)) t0 t7 (.int .i64 (.ofNat 0)) H
noncomputable def S240 : Ff := ⟨fun call l H => argA1 (fun t0 => S240_3 call t0 H) l⟩
/- gantline/live.Reads -/
noncomputable def S241_0 (call : CallFn) (t2 t3 t5 t142 t144 : AV) (H : AHeap) : R :=
  pPick t142 (.bool true) t144 H fun t145 H =>
  onBool t145 (pFa 1 t3 H fun t146 H =>
  ldK .none H t146 fun t147 H =>
  pFa 2 t3 H fun t148 H =>
  ldK .none H t148 fun t149 H =>
  pFa 3 t3 H fun t150 H =>
  ldK .none H t150 fun t151 H =>
  pN (aBsl 1 3 [(.int .i64 (.ofNat 0))] [(0, 1, t147), (1, 1, t149), (2, 1, t151)]) H fun t152 H =>
  some (t152, H)) (pEql t5 (.int .i64 (.ofNat 36)) H fun t155 H =>
  onBool t155 (pFa 3 t3 H fun t156 H =>
  ldK .none H t156 fun t157 H =>
  ldK (.some 6) H t2 fun t158 H =>
  pFa 2 t3 H fun t159 H =>
  ldK .none H t159 fun t160 H =>
  pC call 339 [t158, t160] H fun t161 H =>
  andR (andB (ckV (aLoad .none H t156) t157) true) (
  pO (aFld 1 .none t161) H fun t162 H =>
  pC call 338 [t157, t162] H fun t163 H =>
  some (t163, H))) (pEql t5 (.int .i64 (.ofNat 38)) H fun t166 H =>
  onBool t166 (pFa 1 t3 H fun t167 H =>
  ldK .none H t167 fun t168 H =>
  pFa 2 t3 H fun t169 H =>
  ldK .none H t169 fun t170 H =>
  pN (aBsl 1 2 [(.int .i64 (.ofNat 0))] [(0, 1, t168), (1, 1, t170)]) H fun t171 H =>
  some (t171, H)) (pEql t5 (.int .i64 (.ofNat 41)) H fun t174 H =>
  onBool t174 (ldK (.some 6) H t2 fun t175 H =>
  ldK (.some 5) H t3 fun t176 H =>
  pC call 239 [t175, t176] H fun t177 H =>
  pC call 341 [t177] H fun t178 H =>
  some (t178, H)) (some (.nilsl, H)))))
noncomputable def S241_1 (call : CallFn) (t2 t3 t5 t130 t132 : AV) (H : AHeap) : R :=
  pPick t130 (.bool true) t132 H fun t133 H =>
  onBool t133 (pFa 1 t3 H fun t134 H =>
  ldK .none H t134 fun t135 H =>
  pFa 3 t3 H fun t136 H =>
  ldK .none H t136 fun t137 H =>
  pN (aBsl 1 2 [(.int .i64 (.ofNat 0))] [(0, 1, t135), (1, 1, t137)]) H fun t138 H =>
  some (t138, H)) (pEql t5 (.int .i64 (.ofNat 31)) H fun t141 H =>
  guardA t141 false (pEql t5 (.int .i64 (.ofNat 32)) H fun t144 H =>
  S241_0 call t2 t3 t5 t141 t144 H) (S241_0 call t2 t3 t5 t141 U H))
noncomputable def S241_2 (call : CallFn) (t2 t3 t5 t120 t122 : AV) (H : AHeap) : R :=
  pPick t120 (.bool true) t122 H fun t123 H =>
  onBool t123 (pFa 3 t3 H fun t124 H =>
  ldK .none H t124 fun t125 H =>
  pN (aBsl 1 1 [(.int .i64 (.ofNat 0))] [(0, 1, t125)]) H fun t126 H =>
  some (t126, H)) (pEql t5 (.int .i64 (.ofNat 28)) H fun t129 H =>
  guardA t129 false (pEql t5 (.int .i64 (.ofNat 29)) H fun t132 H =>
  S241_1 call t2 t3 t5 t129 t132 H) (S241_1 call t2 t3 t5 t129 U H))
noncomputable def S241_3 (call : CallFn) (t2 t3 t5 t57 t59 : AV) (H : AHeap) : R :=
  pPick t57 (.bool true) t59 H fun t60 H =>
  onBool t60 (pFa 1 t3 H fun t61 H =>
  ldK .none H t61 fun t62 H =>
  pN (aBsl 1 1 [(.int .i64 (.ofNat 0))] [(0, 1, t62)]) H fun t63 H =>
  some (t63, H)) (pEql t5 (.int .i64 (.ofNat 20)) H fun t66 H =>
  onBool t66 (pFa 3 t3 H fun t67 H =>
  ldK .none H t67 fun t68 H =>
  ldK (.some 6) H t2 fun t69 H =>
  pFa 2 t3 H fun t70 H =>
  ldK .none H t70 fun t71 H =>
  pC call 339 [t69, t71] H fun t72 H =>
  andR (andB (ckV (aLoad .none H t67) t68) true) (
  pO (aFld 0 .none t72) H fun t73 H =>
  pC call 338 [t68, t73] H fun t74 H =>
  some (t74, H))) (pEql t5 (.int .i64 (.ofNat 21)) H fun t77 H =>
  onBool t77 (pFa 2 t3 H fun t78 H =>
  ldK .none H t78 fun t79 H =>
  pN (aBsl 1 1 [(.int .i64 (.ofNat 0))] [(0, 1, t79)]) H fun t80 H =>
  pFa 3 t3 H fun t81 H =>
  ldK .none H t81 fun t82 H =>
  pFa 4 t3 H fun t83 H =>
  ldK .none H t83 fun t84 H =>
  pC call 338 [t82, t84] H fun t85 H =>
  andR (andB (ckV (aLoad .none H t78) t79) true) (
  pW (aApp 1 8 H t80 t85) fun t86 H =>
  some (t86, H))) (pEql t5 (.int .i64 (.ofNat 22)) H fun t89 H =>
  onBool t89 (pFa 1 t3 H fun t90 H =>
  ldK .none H t90 fun t91 H =>
  pN (aBsl 1 1 [(.int .i64 (.ofNat 0))] [(0, 1, t91)]) H fun t92 H =>
  pC call 340 [t92] H fun t93 H =>
  some (t93, H)) (pEql t5 (.int .i64 (.ofNat 23)) H fun t96 H =>
  onBool t96 (pFa 2 t3 H fun t97 H =>
  ldK .none H t97 fun t98 H =>
  ldK (.some 6) H t2 fun t99 H =>
  pFa 1 t3 H fun t100 H =>
  ldK .none H t100 fun t101 H =>
  pC call 339 [t99, t101] H fun t102 H =>
  andR (andB (ckV (aLoad .none H t97) t98) true) (
  pO (aFld 0 .none t102) H fun t103 H =>
  pC call 338 [t98, t103] H fun t104 H =>
  some (t104, H))) (pEql t5 (.int .i64 (.ofNat 24)) H fun t107 H =>
  onBool t107 (pFa 1 t3 H fun t108 H =>
  ldK .none H t108 fun t109 H =>
  pN (aBsl 1 1 [(.int .i64 (.ofNat 0))] [(0, 1, t109)]) H fun t110 H =>
  pFa 2 t3 H fun t111 H =>
  ldK .none H t111 fun t112 H =>
  pFa 3 t3 H fun t113 H =>
  ldK .none H t113 fun t114 H =>
  pC call 338 [t112, t114] H fun t115 H =>
  andR (andB (ckV (aLoad .none H t108) t109) true) (
  pW (aApp 1 8 H t110 t115) fun t116 H =>
  some (t116, H))) (pEql t5 (.int .i64 (.ofNat 26)) H fun t119 H =>
  guardA t119 false (pEql t5 (.int .i64 (.ofNat 37)) H fun t122 H =>
  S241_2 call t2 t3 t5 t119 t122 H) (S241_2 call t2 t3 t5 t119 U H)))))))
noncomputable def S241_4 (call : CallFn) (t2 t3 t5 t53 t55 : AV) (H : AHeap) : R :=
  pPick t53 (.bool true) t55 H fun t56 H =>
  guardA t56 false (pEql t5 (.int .i64 (.ofNat 42)) H fun t59 H =>
  S241_3 call t2 t3 t5 t56 t59 H) (S241_3 call t2 t3 t5 t56 U H)
noncomputable def S241_5 (call : CallFn) (t2 t3 t5 t41 t43 : AV) (H : AHeap) : R :=
  pPick t41 (.bool true) t43 H fun t44 H =>
  onBool t44 (pFa 2 t3 H fun t45 H =>
  ldK .none H t45 fun t46 H =>
  pFa 3 t3 H fun t47 H =>
  ldK .none H t47 fun t48 H =>
  pN (aBsl 1 2 [(.int .i64 (.ofNat 0))] [(0, 1, t46), (1, 1, t48)]) H fun t49 H =>
  some (t49, H)) (pEql t5 (.int .i64 (.ofNat 19)) H fun t52 H =>
  guardA t52 false (pEql t5 (.int .i64 (.ofNat 40)) H fun t55 H =>
  S241_4 call t2 t3 t5 t52 t55 H) (S241_4 call t2 t3 t5 t52 U H))
noncomputable def S241_6 (call : CallFn) (t2 t3 t5 t37 t39 : AV) (H : AHeap) : R :=
  pPick t37 t39 (.bool false) H fun t40 H =>
  guardA t40 false (pEql t5 (.int .i64 (.ofNat 30)) H fun t43 H =>
  S241_5 call t2 t3 t5 t40 t43 H) (S241_5 call t2 t3 t5 t40 U H)
noncomputable def S241_7 (call : CallFn) (t2 t3 t5 t27 t29 : AV) (H : AHeap) : R :=
  pPick t27 (.bool true) t29 H fun t30 H =>
  onBool t30 (pFa 2 t3 H fun t31 H =>
  ldK .none H t31 fun t32 H =>
  pN (aBsl 1 1 [(.int .i64 (.ofNat 0))] [(0, 1, t32)]) H fun t33 H =>
  some (t33, H)) (pGeq t5 (.int .i64 (.ofNat 3)) H fun t36 H =>
  guardA t36 true (pLeq t5 (.int .i64 (.ofNat 16)) H fun t39 H =>
  S241_6 call t2 t3 t5 t36 t39 H) (S241_6 call t2 t3 t5 t36 U H))
noncomputable def S241_8 (call : CallFn) (t2 t3 t5 t23 t25 : AV) (H : AHeap) : R :=
  pPick t23 (.bool true) t25 H fun t26 H =>
  guardA t26 false (pEql t5 (.int .i64 (.ofNat 39)) H fun t29 H =>
  S241_7 call t2 t3 t5 t26 t29 H) (S241_7 call t2 t3 t5 t26 U H)
noncomputable def S241_9 (call : CallFn) (t2 t3 t5 t19 t21 : AV) (H : AHeap) : R :=
  pPick t19 (.bool true) t21 H fun t22 H =>
  guardA t22 false (pEql t5 (.int .i64 (.ofNat 27)) H fun t25 H =>
  S241_8 call t2 t3 t5 t22 t25 H) (S241_8 call t2 t3 t5 t22 U H)
noncomputable def S241_10 (call : CallFn) (t2 t3 t5 t15 t17 : AV) (H : AHeap) : R :=
  pPick t15 (.bool true) t17 H fun t18 H =>
  guardA t18 false (pEql t5 (.int .i64 (.ofNat 35)) H fun t21 H =>
  S241_9 call t2 t3 t5 t18 t21 H) (S241_9 call t2 t3 t5 t18 U H)
noncomputable def S241_11 (call : CallFn) (t2 t3 t5 t11 t13 : AV) (H : AHeap) : R :=
  pPick t11 (.bool true) t13 H fun t14 H =>
  guardA t14 false (pEql t5 (.int .i64 (.ofNat 33)) H fun t17 H =>
  S241_10 call t2 t3 t5 t14 t17 H) (S241_10 call t2 t3 t5 t14 U H)
noncomputable def S241_12 (call : CallFn) (t0 t1 : AV) (H : AHeap) : R :=
  pBox t0 H fun t2 H =>
  pBox t1 H fun t3 H =>
  pFa 0 t3 H fun t6 H =>
  ldK .none H t6 fun t7 H =>
  pEql t7 (.int .i64 (.ofNat 1)) H fun t10 H =>
  guardA t10 false (pEql t7 (.int .i64 (.ofNat 17)) H fun t13 H =>
  S241_11 call t2 t3 t7 t10 t13 H) (S241_11 call t2 t3 t7 t10 U H)
noncomputable def S241 : Ff := ⟨fun call l H => argA2 (fun t0 t1 => S241_12 call t0 t1 H) l⟩
/- gantline/live.Writes -/
noncomputable def S242_0 (call : CallFn) (t1 t3 t47 t49 : AV) (H : AHeap) : R :=
  pPick t47 (.bool true) t49 H fun t50 H =>
  onBool t50 (pFa 1 t1 H fun t51 H =>
  ldK .none H t51 fun t52 H =>
  pN (aBsl 1 1 [(.int .i64 (.ofNat 0))] [(0, 1, t52)]) H fun t53 H =>
  pC call 340 [t53] H fun t54 H =>
  some (t54, H)) (pEql t3 (.int .i64 (.ofNat 39)) H fun t57 H =>
  onBool t57 (pFa 1 t1 H fun t58 H =>
  ldK .none H t58 fun t59 H =>
  pFa 3 t1 H fun t60 H =>
  ldK .none H t60 fun t61 H =>
  pN (aBsl 1 2 [(.int .i64 (.ofNat 0))] [(0, 1, t59), (1, 1, t61)]) H fun t62 H =>
  pC call 340 [t62] H fun t63 H =>
  some (t63, H)) (some (.nilsl, H)))
noncomputable def S242_1 (call : CallFn) (t1 t3 t37 t39 : AV) (H : AHeap) : R :=
  pPick t37 (.bool true) t39 H fun t40 H =>
  onBool t40 (pFa 1 t1 H fun t41 H =>
  ldK .none H t41 fun t42 H =>
  pN (aBsl 1 1 [(.int .i64 (.ofNat 0))] [(0, 1, t42)]) H fun t43 H =>
  some (t43, H)) (pEql t3 (.int .i64 (.ofNat 20)) H fun t46 H =>
  guardA t46 false (pEql t3 (.int .i64 (.ofNat 21)) H fun t49 H =>
  S242_0 call t1 t3 t46 t49 H) (S242_0 call t1 t3 t46 U H))
noncomputable def S242_2 (call : CallFn) (t1 t3 t33 t35 : AV) (H : AHeap) : R :=
  pPick t33 (.bool true) t35 H fun t36 H =>
  guardA t36 false (pEql t3 (.int .i64 (.ofNat 37)) H fun t39 H =>
  S242_1 call t1 t3 t36 t39 H) (S242_1 call t1 t3 t36 U H)
noncomputable def S242_3 (call : CallFn) (t1 t3 t29 t31 : AV) (H : AHeap) : R :=
  pPick t29 (.bool true) t31 H fun t32 H =>
  guardA t32 false (pEql t3 (.int .i64 (.ofNat 36)) H fun t35 H =>
  S242_2 call t1 t3 t32 t35 H) (S242_2 call t1 t3 t32 U H)
noncomputable def S242_4 (call : CallFn) (t1 t3 t25 t27 : AV) (H : AHeap) : R :=
  pPick t25 (.bool true) t27 H fun t28 H =>
  guardA t28 false (pEql t3 (.int .i64 (.ofNat 34)) H fun t31 H =>
  S242_3 call t1 t3 t28 t31 H) (S242_3 call t1 t3 t28 U H)
noncomputable def S242_5 (call : CallFn) (t1 t3 t21 t23 : AV) (H : AHeap) : R :=
  pPick t21 (.bool true) t23 H fun t24 H =>
  guardA t24 false (pEql t3 (.int .i64 (.ofNat 33)) H fun t27 H =>
  S242_4 call t1 t3 t24 t27 H) (S242_4 call t1 t3 t24 U H)
noncomputable def S242_6 (call : CallFn) (t1 t3 t13 t19 : AV) (H : AHeap) : R :=
  pPick t13 (.bool true) t19 H fun t20 H =>
  guardA t20 false (pEql t3 (.int .i64 (.ofNat 30)) H fun t23 H =>
  S242_5 call t1 t3 t20 t23 H) (S242_5 call t1 t3 t20 U H)
noncomputable def S242_7 (call : CallFn) (t1 t3 t13 t16 t18 : AV) (H : AHeap) : R :=
  guardA t13 false (pPick t16 t18 (.bool false) H fun t19 H =>
  S242_6 call t1 t3 t13 t19 H) (S242_6 call t1 t3 t13 U H)
noncomputable def S242_8 (call : CallFn) (t1 t3 t13 t16 : AV) (H : AHeap) : R :=
  guardA t16 true (pLeq t3 (.int .i64 (.ofNat 27)) H fun t18 H =>
  S242_7 call t1 t3 t13 t16 t18 H) (S242_7 call t1 t3 t13 t16 U H)
noncomputable def S242_9 (call : CallFn) (t1 t3 t9 t11 : AV) (H : AHeap) : R :=
  pPick t9 t11 (.bool false) H fun t12 H =>
  guardA t12 false (pGeq t3 (.int .i64 (.ofNat 25)) H fun t15 H =>
  S242_8 call t1 t3 t12 t15 H) (S242_8 call t1 t3 t12 U H)
noncomputable def S242_10 (call : CallFn) (t0 : AV) (H : AHeap) : R :=
  pBox t0 H fun t1 H =>
  pFa 0 t1 H fun t4 H =>
  ldK .none H t4 fun t5 H =>
  pGeq t5 (.int .i64 (.ofNat 0)) H fun t8 H =>
  guardA t8 true (pLeq t5 (.int .i64 (.ofNat 17)) H fun t11 H =>
  S242_9 call t1 t5 t8 t11 H) (S242_9 call t1 t5 t8 U H)
noncomputable def S242 : Ff := ⟨fun call l H => argA1 (fun t0 => S242_10 call t0 H) l⟩
/- gantline/code.Point -/
noncomputable def S243_0 (call : CallFn) (t0 t4 : AV) (H : AHeap) : R :=
  onBool t4 (some ((.bool true), H)) (pC call 244 [t0] H fun t14 H =>
  some (t14, H))
noncomputable def S243_1 (call : CallFn) (t0 : AV) (H : AHeap) : R :=
  pEql t0 (.int .i64 (.ofNat 20)) H fun t5 H =>
  onBool t5 (S243_0 call t0 t5 H) (pEql t0 (.int .i64 (.ofNat 21)) H fun t6 H =>
  onBool t6 (S243_0 call t0 t6 H) (pEql t0 (.int .i64 (.ofNat 23)) H fun t7 H =>
  onBool t7 (S243_0 call t0 t7 H) (pEql t0 (.int .i64 (.ofNat 24)) H fun t8 H =>
  onBool t8 (S243_0 call t0 t8 H) (pEql t0 (.int .i64 (.ofNat 38)) H fun t9 H =>
  onBool t9 (S243_0 call t0 t9 H) (pEql t0 (.int .i64 (.ofNat 39)) H fun t10 H =>
  onBool t10 (S243_0 call t0 t10 H) (pEql t0 (.int .i64 (.ofNat 41)) H fun t11 H =>
  onBool t11 (S243_0 call t0 t11 H) (pEql t0 (.int .i64 (.ofNat 43)) H fun t12 H =>
  S243_0 call t0 t12 H)))))))
noncomputable def S243 : Ff := ⟨fun call l H => argA1 (fun t0 => S243_1 call t0 H) l⟩
/- gantline/code.Maker -/
noncomputable def S244_0 (_ : CallFn) (t13 t15 : AV) (H : AHeap) : R :=
  pPick t13 (.bool true) t15 H fun t16 H =>
  some (t16, H)
noncomputable def S244_1 (call : CallFn) (t0 t9 t11 : AV) (H : AHeap) : R :=
  pPick t9 (.bool true) t11 H fun t12 H =>
  guardA t12 false (pEql t0 (.int .i64 (.ofNat 37)) H fun t15 H =>
  S244_0 call t12 t15 H) (S244_0 call t12 U H)
noncomputable def S244_2 (call : CallFn) (t0 t5 t7 : AV) (H : AHeap) : R :=
  pPick t5 (.bool true) t7 H fun t8 H =>
  guardA t8 false (pEql t0 (.int .i64 (.ofNat 36)) H fun t11 H =>
  S244_1 call t0 t8 t11 H) (S244_1 call t0 t8 U H)
noncomputable def S244_3 (call : CallFn) (t0 : AV) (H : AHeap) : R :=
  pEql t0 (.int .i64 (.ofNat 25)) H fun t4 H =>
  guardA t4 false (pEql t0 (.int .i64 (.ofNat 26)) H fun t7 H =>
  S244_2 call t0 t4 t7 H) (S244_2 call t0 t4 U H)
noncomputable def S244 : Ff := ⟨fun call l H => argA1 (fun t0 => S244_3 call t0 H) l⟩
/- gantline/fresh.lends -/
noncomputable def S247_0 (_ : CallFn) (t4 : AV) (H : AHeap) : R :=
  onBool t4 (some ((.bool true), H)) (some ((.bool false), H))
noncomputable def S247_1 (call : CallFn) (t0 : AV) (H : AHeap) : R :=
  pEql t0 (.int .i64 (.ofNat 35)) H fun t5 H =>
  onBool t5 (S247_0 call t5 H) (pEql t0 (.int .i64 (.ofNat 20)) H fun t6 H =>
  onBool t6 (S247_0 call t6 H) (pEql t0 (.int .i64 (.ofNat 21)) H fun t7 H =>
  onBool t7 (S247_0 call t7 H) (pEql t0 (.int .i64 (.ofNat 23)) H fun t8 H =>
  onBool t8 (S247_0 call t8 H) (pEql t0 (.int .i64 (.ofNat 24)) H fun t9 H =>
  onBool t9 (S247_0 call t9 H) (pEql t0 (.int .i64 (.ofNat 22)) H fun t10 H =>
  S247_0 call t10 H)))))
noncomputable def S247 : Ff := ⟨fun call l H => argA1 (fun t0 => S247_1 call t0 H) l⟩
/- gantline/fresh.receives -/
noncomputable def S248_1 (_ : CallFn) (q0 : AV → AV → AV → AV → AHeap → R) (t5 t49 t50 t51 : AV) (H : AHeap) : R :=
  pAdd t51 (.int .i64 (.ofNat 1)) H fun t63 H =>
  q0 t5 t49 t50 t63 H
noncomputable def S248_0 (call : CallFn) (n : Nat) : AV → AV → AV → AV → AHeap → R :=
  Nat.rec (motive := fun _ => AV → AV → AV → AV → AHeap → R) (fun _ _ _ _ _ => none) (fun _ q0 t5 t49 t50 t51 H => pLss t51 t50 H fun t52 H =>
  onBool t52 (pIa 4 t49 t51 H fun t53 H =>
  ldK (.some 4) H t53 fun t54 H =>
  pNew [(.int .i64 (.ofNat 0)), (.int .i64 (.ofNat 0)), (.int .i64 (.ofNat 0)), (.int .i64 (.ofNat 0))] H fun t7 H =>
  stK 4 H t7 t54 fun _ H =>
  pFa 0 t7 H fun t55 H =>
  ldK .none H t55 fun t56 H =>
  pEql t56 (.int .i64 (.ofNat 0)) H fun t57 H =>
  onBool t57 (pFa 2 t7 H fun t59 H =>
  ldK .none H t59 fun t60 H =>
  pN (aBsl 1 1 [(.int .i64 (.ofNat 0))] [(0, 1, t60)]) H fun t61 H =>
  pW (aApp 1 8 H t5 t61) fun t62 H =>
  S248_1 call q0 t62 t49 t50 t51 H) (S248_1 call q0 t5 t49 t50 t51 H)) (some (t5, H))) n
noncomputable def S248_2 (call : CallFn) (t2 t3 t29 t38 : AV) (H : AHeap) : R :=
  pPick t29 (.bool true) t38 H fun t39 H =>
  onBool t39 (some (.nilsl, H)) (pFa 3 t2 H fun t40 H =>
  ldK .none H t40 fun t41 H =>
  pFa 1 t3 H fun t42 H =>
  ldK .none H t42 fun t43 H =>
  pFa 1 t3 H fun t44 H =>
  ldK .none H t44 fun t45 H =>
  pFa 2 t3 H fun t46 H =>
  ldK .none H t46 fun t47 H =>
  pAdd t45 t47 H fun t48 H =>
  pO (aSlice 4 H t41 (.some t43) (.some t48) .none) H fun t49 H =>
  pO (aLen .sl H t49) H fun t50 H =>
  S248_0 call 1000000 .nilsl t49 t50 (.int .i64 (.ofNat 0)) H)
noncomputable def S248_3 (call : CallFn) (t2 t3 t21 t27 : AV) (H : AHeap) : R :=
  pPick t21 (.bool true) t27 H fun t28 H =>
  guardA t28 false (pFa 2 t3 H fun t30 H =>
  ldK .none H t30 fun t31 H =>
  pFa 3 t2 H fun t32 H =>
  ldK .none H t32 fun t33 H =>
  pO (aLen .sl H t33) H fun t34 H =>
  pFa 1 t3 H fun t35 H =>
  ldK .none H t35 fun t36 H =>
  pSub t34 t36 H fun t37 H =>
  pGtr t31 t37 H fun t38 H =>
  S248_2 call t2 t3 t28 t38 H) (S248_2 call t2 t3 t28 U H)
noncomputable def S248_4 (call : CallFn) (t2 t3 t16 t19 : AV) (H : AHeap) : R :=
  pPick t16 (.bool true) t19 H fun t20 H =>
  guardA t20 false (pFa 1 t3 H fun t22 H =>
  ldK .none H t22 fun t23 H =>
  pFa 3 t2 H fun t24 H =>
  ldK .none H t24 fun t25 H =>
  pO (aLen .sl H t25) H fun t26 H =>
  pGtr t23 t26 H fun t27 H =>
  S248_3 call t2 t3 t20 t27 H) (S248_3 call t2 t3 t20 U H)
noncomputable def S248_5 (call : CallFn) (t2 t3 t11 t14 : AV) (H : AHeap) : R :=
  pPick t11 (.bool true) t14 H fun t15 H =>
  guardA t15 false (pFa 2 t3 H fun t17 H =>
  ldK .none H t17 fun t18 H =>
  pLss t18 (.int .i64 (.ofNat 0)) H fun t19 H =>
  S248_4 call t2 t3 t15 t19 H) (S248_4 call t2 t3 t15 U H)
noncomputable def S248_6 (call : CallFn) (t0 t1 : AV) (H : AHeap) : R :=
  pBox t0 H fun t2 H =>
  pBox t1 H fun t3 H =>
  pFa 0 t3 H fun t8 H =>
  ldK .none H t8 fun t9 H =>
  pNeq t9 (.int .i64 (.ofNat 41)) H fun t10 H =>
  guardA t10 false (pFa 1 t3 H fun t12 H =>
  ldK .none H t12 fun t13 H =>
  pLss t13 (.int .i64 (.ofNat 0)) H fun t14 H =>
  S248_5 call t2 t3 t10 t14 H) (S248_5 call t2 t3 t10 U H)
noncomputable def S248 : Ff := ⟨fun call l H => argA2 (fun t0 t1 => S248_6 call t0 t1 H) l⟩
/- slices.DeleteFunc[[]int,int] -/
noncomputable def S249_0 (_ : CallFn) (t0 t5 : AV) (H : AHeap) : R :=
  pO (aSlice 1 H t0 (.some t5) .none .none) H fun t38 H =>
  pW (unitW (aClearS [(.int .i64 (.ofNat 0))] H t38)) fun _ H =>
  pO (aSlice 1 H t0 .none (.some t5) .none) H fun t41 H =>
  some (t41, H)
noncomputable def S249_2 (_ : CallFn) (q0 : AV → AV → AV → AV → AHeap → R) (t0 t1 t5 t6 : AV) (H : AHeap) : R :=
  pAdd t6 (.int .i64 (.ofNat 1)) H fun t21 H =>
  q0 t0 t1 t5 t21 H
noncomputable def S249_1 (call : CallFn) (n : Nat) : AV → AV → AV → AV → AHeap → R :=
  Nat.rec (motive := fun _ => AV → AV → AV → AV → AHeap → R) (fun _ _ _ _ _ => none) (fun _ q0 t0 t1 t5 t6 H => pO (aLen .sl H t0) H fun t18 H =>
  pLss t6 t18 H fun t19 H =>
  onBool t19 (pIa 1 t0 t6 H fun t24 H =>
  ldK .none H t24 fun t25 H =>
  pV call t1 [t25] H fun t28 H =>
  pO (aUn .not t28) H fun t29 H =>
  onBool t29 (pIa 1 t0 t5 H fun t33 H =>
  stK 1 H t33 t25 fun _ H =>
  pAdd t5 (.int .i64 (.ofNat 1)) H fun t35 H =>
  S249_2 call q0 t0 t1 t35 t6 H) (S249_2 call q0 t0 t1 t5 t6 H)) (S249_0 call t0 t5 H)) n
noncomputable def S249_3 (call : CallFn) (t0 t1 : AV) (H : AHeap) : R :=
  pC call 342 [t0, t1] H fun t10 H =>
  pEql t10 (.int .i64 (.negSucc 0)) H fun t12 H =>
  onBool t12 (some (t0, H)) (pAdd t10 (.int .i64 (.ofNat 1)) H fun t15 H =>
  S249_1 call 1000000 t0 t1 t10 t15 H)
noncomputable def S249 : Ff := ⟨fun call l H => argA2 (fun t0 t1 => S249_3 call t0 t1 H) l⟩
/- slices.Sort[[]int,int] -/
noncomputable def S251_0 (call : CallFn) (t0 : AV) (H : AHeap) : R :=
  pO (aLen .sl H t0) H fun t4 H =>
  pConv .u64 t4 H fun t8 H =>
  pC call 344 [t8] H fun t9 H =>
  pC call 343 [t0, (.int .i64 (.ofNat 0)), t4, t9] H fun _ H =>
  some (.tup [], H)
noncomputable def S251 : Ff := ⟨fun call l H => argA1 (fun t0 => S251_0 call t0 H) l⟩
/- slices.Compact[[]int,int] -/
noncomputable def S252_1 (_ : CallFn) (q0 : AV → AV → AHeap → R) (t0 t3 : AV) (H : AHeap) : R :=
  pAdd t3 (.int .i64 (.ofNat 1)) H fun t15 H =>
  q0 t0 t15 H
noncomputable def S252_2 (_ : CallFn) (t0 t3 : AV) (H : AHeap) : R :=
  pO (aSlice 1 H t0 (.some t3) .none .none) H fun t56 H =>
  pW (unitW (aClearS [(.int .i64 (.ofNat 0))] H t56)) fun _ H =>
  pO (aSlice 1 H t0 .none (.some t3) .none) H fun t59 H =>
  some (t59, H)
noncomputable def S252_4 (_ : CallFn) (q1 : AV → AV → AV → AV → AHeap → R) (t0 t3 t4 t5 : AV) (H : AHeap) : R :=
  pAdd t5 (.int .i64 (.ofNat 1)) H fun t34 H =>
  q1 t0 t3 t4 t34 H
noncomputable def S252_3 (call : CallFn) (n : Nat) : AV → AV → AV → AV → AHeap → R :=
  Nat.rec (motive := fun _ => AV → AV → AV → AV → AHeap → R) (fun _ _ _ _ _ => none) (fun _ q1 t0 t3 t4 t5 H => pO (aLen .sl H t4) H fun t31 H =>
  pLss t5 t31 H fun t32 H =>
  onBool t32 (pIa 1 t4 t5 H fun t37 H =>
  ldK .none H t37 fun t38 H =>
  pSub t5 (.int .i64 (.ofNat 1)) H fun t41 H =>
  pIa 1 t4 t41 H fun t42 H =>
  ldK .none H t42 fun t43 H =>
  pNeq t38 t43 H fun t44 H =>
  onBool t44 (pIa 1 t4 t5 H fun t49 H =>
  ldK .none H t49 fun t50 H =>
  pIa 1 t0 t3 H fun t51 H =>
  stK 1 H t51 t50 fun _ H =>
  pAdd t3 (.int .i64 (.ofNat 1)) H fun t53 H =>
  S252_4 call q1 t0 t53 t4 t5 H) (S252_4 call q1 t0 t3 t4 t5 H)) (S252_2 call t0 t3 H)) n
noncomputable def S252_0 (call : CallFn) (n : Nat) : AV → AV → AHeap → R :=
  Nat.rec (motive := fun _ => AV → AV → AHeap → R) (fun _ _ _ => none) (fun _ q0 t0 t3 H => pO (aLen .sl H t0) H fun t12 H =>
  pLss t3 t12 H fun t13 H =>
  onBool t13 (pIa 1 t0 t3 H fun t18 H =>
  ldK .none H t18 fun t19 H =>
  pSub t3 (.int .i64 (.ofNat 1)) H fun t22 H =>
  pIa 1 t0 t22 H fun t23 H =>
  ldK .none H t23 fun t24 H =>
  pEql t19 t24 H fun t25 H =>
  onBool t25 (pO (aSlice 1 H t0 (.some t3) .none .none) H fun t28 H =>
  S252_3 call 1000000 t0 t3 t28 (.int .i64 (.ofNat 1)) H) (S252_1 call q0 t0 t3 H)) (some (t0, H))) n
noncomputable def S252_5 (call : CallFn) (t0 : AV) (H : AHeap) : R :=
  pO (aLen .sl H t0) H fun t7 H =>
  pLss t7 (.int .i64 (.ofNat 2)) H fun t8 H =>
  onBool t8 (some (t0, H)) (S252_0 call 1000000 t0 (.int .i64 (.ofNat 1)) H)
noncomputable def S252 : Ff := ⟨fun call l H => argA1 (fun t0 => S252_5 call t0 H) l⟩
/- gantline/arena.New -/
noncomputable def S255_0 (_ : CallFn) (n : Nat) : AV → AV → AV → AHeap → R :=
  Nat.rec (motive := fun _ => AV → AV → AV → AHeap → R) (fun _ _ _ _ => none) (fun _ q0 t4 t23 t24 H => pLss t24 t23 H fun t25 H =>
  onBool t25 (pO (aNil t4) H fun t28 H =>
  pFa 1 t28 H fun t29 H =>
  ldK .none H t29 fun t30 H =>
  pIa 3 t30 t24 H fun t32 H =>
  pFa 0 t32 H fun t33 H =>
  stK 1 H t33 (.int .i64 (.negSucc 0)) fun _ H =>
  pAdd t24 (.int .i64 (.ofNat 1)) H fun t34 H =>
  q0 t4 t23 t34 H) (some (.tup [t4, (.int .i64 (.ofNat 0))], H))) n
noncomputable def S255_1 (call : CallFn) (t0 t8 t10 : AV) (H : AHeap) : R :=
  pPick t8 (.bool true) t10 H fun t11 H =>
  onBool t11 (some (.tup [.nilp, (.int .i64 (.ofNat 1))], H)) (pMul t0 (.int .i64 (.ofNat 64)) H fun t13 H =>
  pN (aMksl 1 8 [(.int .i64 (.ofNat 0))] t13 t13) H fun t14 H =>
  pN (aMksl 3 24 [(.int .i64 (.ofNat 0)), (.int .u64 (.ofNat 0)), (.int .u64 (.ofNat 0))] t0 t0) H fun t16 H =>
  pO (someAgg (aFill [.nilsl, .nilsl] [(0, 1, t14), (1, 1, t16)])) H fun t17 H =>
  pBox t17 H fun t18 H =>
  pO (aNil t18) H fun t20 H =>
  pFa 1 t20 H fun t21 H =>
  ldK .none H t21 fun t22 H =>
  pO (aLen .sl H t22) H fun t23 H =>
  S255_0 call 1000000 t18 t23 (.int .i64 (.ofNat 0)) H)
noncomputable def S255_2 (call : CallFn) (t0 : AV) (H : AHeap) : R :=
  pLss t0 (.int .i64 (.ofNat 8)) H fun t7 H =>
  guardA t7 false (pGtr t0 (.int .i64 (.ofNat 512)) H fun t10 H =>
  S255_1 call t0 t7 t10 H) (S255_1 call t0 t7 U H)
noncomputable def S255 : Ff := ⟨fun call l H => argA1 (fun t0 => S255_2 call t0 H) l⟩
/- gantline/head.New -/
noncomputable def S256_0 (_ : CallFn) (H : AHeap) : R :=
  pMap H fun t1 H =>
  pO (someAgg (aFill [.nilsl, .nilmap] [(1, 1, t1)])) H fun t2 H =>
  pBox t2 H fun t3 H =>
  some (t3, H)
noncomputable def S256 : Ff := ⟨fun call l H => argA0 (S256_0 call H) l⟩
/- gantline/alloc.New -/
noncomputable def S257_0 (call : CallFn) (t0 : AV) (H : AHeap) : R :=
  pC call 345 [t0] H fun t5 H =>
  pN (aMksl 1 1 [(.bool false)] t5 t5) H fun t6 H =>
  pO (someAgg (aFill [.nilp, .nilsl] [(0, 1, t0), (1, 1, t6)])) H fun t7 H =>
  pBox t7 H fun t8 H =>
  some (t8, H)
noncomputable def S257 : Ff := ⟨fun call l H => argA1 (fun t0 => S257_0 call t0 H) l⟩
/- gantline/mark.New -/
noncomputable def S258_0 (call : CallFn) (t0 t1 : AV) (H : AHeap) : R :=
  pC call 346 [] H fun t7 H =>
  pO (someAgg (aFill [.nilp, .nilp, .nilp] [(0, 1, t0), (1, 1, t1), (2, 1, t7)])) H fun t8 H =>
  pBox t8 H fun t9 H =>
  some (t9, H)
noncomputable def S258 : Ff := ⟨fun call l H => argA2 (fun t0 t1 => S258_0 call t0 t1 H) l⟩
/- gantline/frame.begin -/
noncomputable def S259_0 (_ : CallFn) (t1 t2 t6 t8 t40 t43 : AV) (H : AHeap) : R :=
  pPick t40 (.bool true) t43 H fun t44 H =>
  onBool t44 (pO (someAgg (aFill [(.int .i64 (.ofNat 0)), (.int .i64 (.ofNat 0)), .nilsl] [])) H fun t45 H =>
  stK 3 H t6 t45 fun _ H =>
  ob (allM (fun o => o) [aLoad (.some 3) H t6, some (.int .i64 (.ofNat 1))]) fun vs => some (resV vs, H)) (pFa 2 t8 H fun t46 H =>
  ldK .none H t46 fun t47 H =>
  pN (aMksl 1 8 [(.int .i64 (.ofNat 0))] t47 t47) H fun t48 H =>
  pW (aCopy 1 H t48 t2) fun _ H =>
  pO (someAgg (aFill [(.int .i64 (.ofNat 0)), (.int .i64 (.ofNat 0)), .nilsl] [(0, 1, t1), (2, 1, t48)])) H fun t54 H =>
  stK 3 H t6 t54 fun _ H =>
  ob (allM (fun o => o) [aLoad (.some 3) H t6, some (.int .i64 (.ofNat 0))]) fun vs => some (resV vs, H))
noncomputable def S259_1 (call : CallFn) (t1 t2 t6 t8 t33 t38 : AV) (H : AHeap) : R :=
  pPick t33 (.bool true) t38 H fun t39 H =>
  guardA t39 false (pFa 2 t8 H fun t41 H =>
  ldK .none H t41 fun t42 H =>
  pGtr t42 (.int .i64 (.ofNat 64)) H fun t43 H =>
  S259_0 call t1 t2 t6 t8 t39 t43 H) (S259_0 call t1 t2 t6 t8 t39 U H)
noncomputable def S259_2 (call : CallFn) (t1 t2 t3 t6 t12 t17 : AV) (H : AHeap) : R :=
  pPick t12 (.bool true) t17 H fun t18 H =>
  onBool t18 (pO (someAgg (aFill [(.int .i64 (.ofNat 0)), (.int .i64 (.ofNat 0)), .nilsl] [])) H fun t19 H =>
  stK 3 H t6 t19 fun _ H =>
  ob (allM (fun o => o) [aLoad (.some 3) H t6, some (.int .i64 (.ofNat 1))]) fun vs => some (resV vs, H)) (pFa 4 t3 H fun t20 H =>
  ldK .none H t20 fun t21 H =>
  pIa 7 t21 t1 H fun t23 H =>
  ldK (.some 7) H t23 fun t24 H =>
  pNew [(.int .i64 (.ofNat 0)), (.int .i64 (.ofNat 0)), (.int .i64 (.ofNat 0)), (.int .i64 (.ofNat 0)), .nilsl, .nilsl, .nilsl] H fun t8 H =>
  stK 7 H t8 t24 fun _ H =>
  pO (aLen .sl H t2) H fun t26 H =>
  pFa 0 t8 H fun t27 H =>
  ldK .none H t27 fun t28 H =>
  pFa 1 t8 H fun t29 H =>
  ldK .none H t29 fun t30 H =>
  pAdd t28 t30 H fun t31 H =>
  pNeq t26 t31 H fun t32 H =>
  guardA t32 false (pO (aLen .sl H t2) H fun t35 H =>
  pFa 2 t8 H fun t36 H =>
  ldK .none H t36 fun t37 H =>
  pGtr t35 t37 H fun t38 H =>
  S259_1 call t1 t2 t6 t8 t32 t38 H) (S259_1 call t1 t2 t6 t8 t32 U H))
noncomputable def S259_3 (call : CallFn) (t0 t1 t2 : AV) (H : AHeap) : R :=
  pBox t0 H fun t3 H =>
  pNew [(.int .i64 (.ofNat 0)), (.int .i64 (.ofNat 0)), .nilsl] H fun t6 H =>
  pLss t1 (.int .i64 (.ofNat 0)) H fun t11 H =>
  guardA t11 false (pFa 4 t3 H fun t14 H =>
  ldK .none H t14 fun t15 H =>
  pO (aLen .sl H t15) H fun t16 H =>
  pGeq t1 t16 H fun t17 H =>
  S259_2 call t1 t2 t3 t6 t11 t17 H) (S259_2 call t1 t2 t3 t6 t11 U H)
noncomputable def S259 : Ff := ⟨fun call l H => argA3 (fun t0 t1 t2 => S259_3 call t0 t1 t2 H) l⟩
/- (*gantline/sched.Table).IDs -/
noncomputable def S260_0 (call : CallFn) (t0 : AV) (H : AHeap) : R :=
  pO (aNil t0) H fun t4 H =>
  pFa 6 t4 H fun t5 H =>
  ldK .none H t5 fun t6 H =>
  pC call 348 [t6] H fun t7 H =>
  pC call 347 [t7] H fun t8 H =>
  some (t8, H)
noncomputable def S260 : Ff := ⟨fun call l H => argA1 (fun t0 => S260_0 call t0 H) l⟩
/- (*gantline/sched.Table).Enabled$1 -/
noncomputable def S261_0 (call : CallFn) (t0 t1 t2 : AV) (H : AHeap) : R :=
  ldK .none H t1 fun t5 H =>
  ldK .none H t2 fun t6 H =>
  pC call 262 [t5, t6, t0] H fun t8 H =>
  pO (aLen .sl H t8) H fun t9 H =>
  pEql t9 (.int .i64 (.ofNat 0)) H fun t10 H =>
  some (t10, H)
noncomputable def S261 : Ff := ⟨fun call l H => argA3 (fun t0 t1 t2 => S261_0 call t0 t1 t2 H) l⟩
/- (*gantline/sched.Table).Ways -/
noncomputable def S262_0 (_ : CallFn) (t11 t12 t74 t76 : AV) (H : AHeap) : R :=
  pPick t74 t76 (.bool false) H fun t77 H =>
  onBool t77 (pO (someAgg (aFill [(.int .i64 (.ofNat 0)), (.int .i64 (.ofNat 0)), (.int .i64 (.ofNat 0))] [(0, 1, t11), (1, 1, (.int .i64 (.ofNat 0))), (2, 1, (.int .i64 (.negSucc 0)))])) H fun t79 H =>
  pN (aBsl 3 1 [(.int .i64 (.ofNat 0)), (.int .i64 (.ofNat 0)), (.int .i64 (.ofNat 0))] [(0, 3, t79)]) H fun t80 H =>
  some (t80, H)) (some (t12, H))
noncomputable def S262_1 (call : CallFn) (t11 t12 : AV) (H : AHeap) : R :=
  pO (aLen .sl H t12) H fun t72 H =>
  pEql t72 (.int .i64 (.ofNat 0)) H fun t73 H =>
  guardA t73 true (pNeq t11 (.int .i64 (.negSucc 0)) H fun t76 H =>
  S262_0 call t11 t12 t73 t76 H) (S262_0 call t11 t12 t73 U H)
noncomputable def S262_2 (call : CallFn) (n : Nat) : AV → AV → AV → AV → AV → AV → AV → AV → AHeap → R :=
  Nat.rec (motive := fun _ => AV → AV → AV → AV → AV → AV → AV → AV → AHeap → R) (fun _ _ _ _ _ _ _ _ _ => none) (fun _ q0 t0 t1 t2 t11 t12 t57 t58 t59 H => pLss t59 t58 H fun t60 H =>
  onBool t60 (pIa 4 t57 t59 H fun t61 H =>
  ldK (.some 4) H t61 fun t62 H =>
  pNew [(.int .i64 (.ofNat 0)), (.bool false), (.int .i64 (.ofNat 0)), (.bool false)] H fun t14 H =>
  stK 4 H t14 t62 fun _ H =>
  ldK (.some 4) H t14 fun t67 H =>
  pC call 350 [t0, t1, t2, t67] H fun t68 H =>
  pW (aApp 3 24 H t12 t68) fun t69 H =>
  pAdd t59 (.int .i64 (.ofNat 1)) H fun t70 H =>
  q0 t0 t1 t2 t11 t69 t57 t58 t70 H) (S262_1 call t11 t12 H)) n
noncomputable def S262_3 (call : CallFn) (t0 t1 t2 t7 t8 t42 t45 : AV) (H : AHeap) : R :=
  pPick t42 t45 (.bool false) H fun t46 H =>
  onBool t46 (pO (someAgg (aFill [(.int .i64 (.ofNat 0)), (.int .i64 (.ofNat 0)), (.int .i64 (.ofNat 0))] [(0, 1, (.int .i64 (.negSucc 0))), (1, 1, (.int .i64 (.ofNat 0))), (2, 1, (.int .i64 (.negSucc 0)))])) H fun t47 H =>
  pN (aBsl 3 1 [(.int .i64 (.ofNat 0)), (.int .i64 (.ofNat 0)), (.int .i64 (.ofNat 0))] [(0, 3, t47)]) H fun t48 H =>
  some (t48, H)) (ldK (.some 5) H t8 fun t53 H =>
  pC call 349 [t0, t1, t7, t53] H fun t54 H =>
  pExt t54 0 H fun t55 H =>
  pExt t54 1 H fun t56 H =>
  pO (aLen .sl H t55) H fun t58 H =>
  S262_2 call 1000000 t0 t1 t2 t56 .nilsl t55 t58 (.int .i64 (.ofNat 0)) H)
noncomputable def S262_4 (call : CallFn) (t0 t1 t2 t7 t8 t37 t40 : AV) (H : AHeap) : R :=
  pPick t37 t40 (.bool false) H fun t41 H =>
  guardA t41 true (pFa 0 t8 H fun t43 H =>
  ldK .none H t43 fun t44 H =>
  pNeq t44 (.int .i64 (.ofNat 41)) H fun t45 H =>
  S262_3 call t0 t1 t2 t7 t8 t41 t45 H) (S262_3 call t0 t1 t2 t7 t8 t41 U H)
noncomputable def S262_5 (call : CallFn) (t0 t1 t2 : AV) (H : AHeap) : R :=
  pO (aNil t0) H fun t16 H =>
  pFa 6 t16 H fun t17 H =>
  ldK .none H t17 fun t18 H =>
  pO (aLook .int .nilp false H t18 t2) H fun t20 H =>
  pO (aEq false .ptr t20 .nilp) H fun t22 H =>
  onBool t22 (some (.nilsl, H)) (pO (aNil t0) H fun t26 H =>
  pFa 0 t26 H fun t27 H =>
  ldK (.some 6) H t27 fun t28 H =>
  pC call 177 [t20, t28] H fun t29 H =>
  pExt t29 0 H fun t30 H =>
  pExt t29 1 H fun t31 H =>
  pNew [(.int .i64 (.ofNat 0)), (.int .i64 (.ofNat 0)), (.int .i64 (.ofNat 0)), (.int .i64 (.ofNat 0)), (.int .i64 (.ofNat 0))] H fun t8 H =>
  stK 5 H t8 t30 fun _ H =>
  pO (aUn .not t31) H fun t33 H =>
  onBool t33 (some (.nilsl, H)) (pFa 0 t8 H fun t34 H =>
  ldK .none H t34 fun t35 H =>
  pNeq t35 (.int .i64 (.ofNat 38)) H fun t36 H =>
  guardA t36 true (pFa 0 t8 H fun t38 H =>
  ldK .none H t38 fun t39 H =>
  pNeq t39 (.int .i64 (.ofNat 39)) H fun t40 H =>
  S262_4 call t0 t1 t2 t20 t8 t36 t40 H) (S262_4 call t0 t1 t2 t20 t8 t36 U H)))
noncomputable def S262 : Ff := ⟨fun call l H => argA3 (fun t0 t1 t2 => S262_5 call t0 t1 t2 H) l⟩
/- (*gantline/frame.Stack).top -/
noncomputable def S271_0 (_ : CallFn) (t0 : AV) (H : AHeap) : R :=
  pO (aNil t0) H fun t4 H =>
  pFa 0 t4 H fun t5 H =>
  ldK .none H t5 fun t6 H =>
  pO (aLen .sl H t6) H fun t7 H =>
  pEql t7 (.int .i64 (.ofNat 0)) H fun t8 H =>
  onBool t8 (some (.nilp, H)) (pO (aNil t0) H fun t10 H =>
  pFa 0 t10 H fun t11 H =>
  ldK .none H t11 fun t12 H =>
  pO (aNil t0) H fun t14 H =>
  pFa 0 t14 H fun t15 H =>
  ldK .none H t15 fun t16 H =>
  pO (aLen .sl H t16) H fun t17 H =>
  pSub t17 (.int .i64 (.ofNat 1)) H fun t18 H =>
  pIa 3 t12 t18 H fun t19 H =>
  some (t19, H))
noncomputable def S271 : Ff := ⟨fun call l H => argA1 (fun t0 => S271_0 call t0 H) l⟩
/- slices.Index[[]string,string] -/
noncomputable def S287_0 (_ : CallFn) (n : Nat) : AV → AV → AV → AV → AHeap → R :=
  Nat.rec (motive := fun _ => AV → AV → AV → AV → AHeap → R) (fun _ _ _ _ _ => none) (fun _ q0 t0 t1 t7 t8 H => pLss t8 t7 H fun t9 H =>
  onBool t9 (pIa 1 t0 t8 H fun t14 H =>
  ldK .none H t14 fun t15 H =>
  pEql t1 t15 H fun t16 H =>
  onBool t16 (some (t8, H)) (pAdd t8 (.int .i64 (.ofNat 1)) H fun t18 H =>
  q0 t0 t1 t7 t18 H)) (some ((.int .i64 (.negSucc 0)), H))) n
noncomputable def S287_1 (call : CallFn) (t0 t1 : AV) (H : AHeap) : R :=
  pO (aLen .sl H t0) H fun t7 H =>
  S287_0 call 1000000 t0 t1 t7 (.int .i64 (.ofNat 0)) H
noncomputable def S287 : Ff := ⟨fun call l H => argA2 (fun t0 t1 => S287_1 call t0 t1 H) l⟩
/- (*gantline/parse.parser).in -/
noncomputable def S288_0 (call : CallFn) (t0 : AV) (H : AHeap) : R :=
  pO (aNil t0) H fun t3 H =>
  pFa 2 t3 H fun t4 H =>
  ldK .none H t4 fun t5 H =>
  pAdd t5 (.int .i64 (.ofNat 1)) H fun t6 H =>
  pO (aNil t0) H fun t7 H =>
  pFa 2 t7 H fun t8 H =>
  stK 1 H t8 t6 fun _ H =>
  pO (aNil t0) H fun t10 H =>
  pFa 2 t10 H fun t11 H =>
  ldK .none H t11 fun t12 H =>
  pGtr t12 (.int .i64 (.ofNat 60)) H fun t13 H =>
  onBool t13 (pC call 133 [t0, (.int .i64 (.ofNat 2))] H fun _ H =>
  some (.tup [], H)) (some (.tup [], H))
noncomputable def S288 : Ff := ⟨fun call l H => argA1 (fun t0 => S288_0 call t0 H) l⟩
/- internal/stringslite.CutPrefix -/
noncomputable def S291_0 (call : CallFn) (t0 t1 : AV) (H : AHeap) : R :=
  pC call 193 [t0, t1] H fun t8 H =>
  pO (aUn .not t8) H fun t9 H =>
  onBool t9 (some (.tup [t0, (.bool false)], H)) (pO (aLen .str H t1) H fun t13 H =>
  pO (aSliceS t0 (.some t13) .none) H fun t14 H =>
  some (.tup [t14, (.bool true)], H))
noncomputable def S291 : Ff := ⟨fun call l H => argA2 (fun t0 t1 => S291_0 call t0 t1 H) l⟩
/- slices.IndexFunc[[]gantline/head.Shape,gantline/head.Shape] -/
noncomputable def S320_0 (call : CallFn) (n : Nat) : AV → AV → AV → AV → AHeap → R :=
  Nat.rec (motive := fun _ => AV → AV → AV → AV → AHeap → R) (fun _ _ _ _ _ => none) (fun _ q0 t0 t1 t7 t8 H => pLss t8 t7 H fun t9 H =>
  onBool t9 (pIa 3 t0 t8 H fun t14 H =>
  ldK (.some 3) H t14 fun t15 H =>
  pV call t1 [t15] H fun t16 H =>
  onBool t16 (some (t8, H)) (pAdd t8 (.int .i64 (.ofNat 1)) H fun t18 H =>
  q0 t0 t1 t7 t18 H)) (some ((.int .i64 (.negSucc 0)), H))) n
noncomputable def S320_1 (call : CallFn) (t0 t1 : AV) (H : AHeap) : R :=
  pO (aLen .sl H t0) H fun t7 H =>
  S320_0 call 1000000 t0 t1 t7 (.int .i64 (.ofNat 0)) H
noncomputable def S320 : Ff := ⟨fun call l H => argA2 (fun t0 t1 => S320_1 call t0 t1 H) l⟩
/- slices.IndexFunc[[]int64,int64] -/
noncomputable def S321_0 (call : CallFn) (n : Nat) : AV → AV → AV → AV → AHeap → R :=
  Nat.rec (motive := fun _ => AV → AV → AV → AV → AHeap → R) (fun _ _ _ _ _ => none) (fun _ q0 t0 t1 t7 t8 H => pLss t8 t7 H fun t9 H =>
  onBool t9 (pIa 1 t0 t8 H fun t14 H =>
  ldK .none H t14 fun t15 H =>
  pV call t1 [t15] H fun t16 H =>
  onBool t16 (some (t8, H)) (pAdd t8 (.int .i64 (.ofNat 1)) H fun t18 H =>
  q0 t0 t1 t7 t18 H)) (some ((.int .i64 (.negSucc 0)), H))) n
noncomputable def S321_1 (call : CallFn) (t0 t1 : AV) (H : AHeap) : R :=
  pO (aLen .sl H t0) H fun t7 H =>
  S321_0 call 1000000 t0 t1 t7 (.int .i64 (.ofNat 0)) H
noncomputable def S321 : Ff := ⟨fun call l H => argA2 (fun t0 t1 => S321_1 call t0 t1 H) l⟩
/- (*gantline/verify.checker).slots$1 -/
noncomputable def S322_0 (_ : CallFn) (t6 t9 : AV) (H : AHeap) : R :=
  pPick t6 (.bool true) t9 H fun t10 H =>
  some (t10, H)
noncomputable def S322_1 (call : CallFn) (t0 t1 : AV) (H : AHeap) : R :=
  pEql t0 (.int .i64 (.negSucc 0)) H fun t5 H =>
  guardA t5 false (ldK .none H t1 fun t7 H =>
  pC call 323 [t7, t0] H fun t9 H =>
  S322_0 call t5 t9 H) (S322_0 call t5 U H)
noncomputable def S322 : Ff := ⟨fun call l H => argA2 (fun t0 t1 => S322_1 call t0 t1 H) l⟩
/- (*gantline/verify.checker).calls -/
noncomputable def S336_0 (_ : CallFn) (t36 t49 : AV) (H : AHeap) : R :=
  pPick t36 (.bool true) t49 H fun t50 H =>
  some (t50, H)
noncomputable def S336_1 (call : CallFn) (t36 t40 t48 : AV) (H : AHeap) : R :=
  guardA t36 false (pPick t40 t48 (.bool false) H fun t49 H =>
  S336_0 call t36 t49 H) (S336_0 call t36 U H)
noncomputable def S336_2 (call : CallFn) (t0 t3 t4 t36 t40 : AV) (H : AHeap) : R :=
  guardA t40 true (pFa 3 t4 H fun t42 H =>
  ldK .none H t42 fun t43 H =>
  pEql t43 (.int .i64 (.ofNat 2)) H fun t44 H =>
  pFa 1 t3 H fun t45 H =>
  ldK .none H t45 fun t46 H =>
  pN (aBsl 1 1 [(.int .i64 (.ofNat 0))] [(0, 1, t46)]) H fun t47 H =>
  pC call 334 [t0, t44, t47] H fun t48 H =>
  S336_1 call t36 t40 t48 H) (S336_1 call t36 t40 U H)
noncomputable def S336_3 (_ : CallFn) (t81 t90 : AV) (H : AHeap) : R :=
  pPick t81 t90 (.bool false) H fun t91 H =>
  some (t91, H)
noncomputable def S336_4 (_ : CallFn) (t109 t120 : AV) (H : AHeap) : R :=
  pPick t109 t120 (.bool false) H fun t121 H =>
  some (t121, H)
noncomputable def S336_5 (call : CallFn) (t109 t110 t116 t119 : AV) (H : AHeap) : R :=
  guardA t109 true (pC call 334 [t110, t116, t119] H fun t120 H =>
  S336_4 call t109 t120 H) (S336_4 call t109 U H)
noncomputable def S336_6 (call : CallFn) (t109 t110 t116 t118 : AV) (H : AHeap) : R :=
  guardA t109 true (pN (aBsl 1 1 [(.int .i64 (.ofNat 0))] [(0, 1, t118)]) H fun t119 H =>
  S336_5 call t109 t110 t116 t119 H) (S336_5 call t109 t110 t116 U H)
noncomputable def S336_7 (call : CallFn) (t109 t110 t116 t117 : AV) (H : AHeap) : R :=
  guardA t109 true (ldK .none H t117 fun t118 H =>
  S336_6 call t109 t110 t116 t118 H) (S336_6 call t109 t110 t116 U H)
noncomputable def S336_8 (call : CallFn) (t3 t109 t110 t116 : AV) (H : AHeap) : R :=
  guardA t109 true (pFa 1 t3 H fun t117 H =>
  S336_7 call t109 t110 t116 t117 H) (S336_7 call t109 t110 t116 U H)
noncomputable def S336_9 (call : CallFn) (t3 t109 t110 t115 : AV) (H : AHeap) : R :=
  guardA t109 true (pEql t115 (.int .i64 (.ofNat 2)) H fun t116 H =>
  S336_8 call t3 t109 t110 t116 H) (S336_8 call t3 t109 t110 U H)
noncomputable def S336_10 (call : CallFn) (t3 t109 t110 t114 : AV) (H : AHeap) : R :=
  guardA t109 true (ldK .none H t114 fun t115 H =>
  S336_9 call t3 t109 t110 t115 H) (S336_9 call t3 t109 t110 U H)
noncomputable def S336_11 (call : CallFn) (t3 t109 t110 t113 : AV) (H : AHeap) : R :=
  guardA t109 true (pFa 3 t113 H fun t114 H =>
  S336_10 call t3 t109 t110 t114 H) (S336_10 call t3 t109 t110 U H)
noncomputable def S336_12 (call : CallFn) (t3 t109 t110 t112 : AV) (H : AHeap) : R :=
  guardA t109 true (pFa 6 t112 H fun t113 H =>
  S336_11 call t3 t109 t110 t113 H) (S336_11 call t3 t109 t110 U H)
noncomputable def S336_13 (call : CallFn) (t3 t109 t110 t111 : AV) (H : AHeap) : R :=
  guardA t109 true (pO (aNil t111) H fun t112 H =>
  S336_12 call t3 t109 t110 t112 H) (S336_12 call t3 t109 t110 U H)
noncomputable def S336_14 (call : CallFn) (t0 t3 t109 t110 : AV) (H : AHeap) : R :=
  guardA t109 true (S336_13 call t3 t109 t110 t0 H) (S336_13 call t3 t109 t110 U H)
noncomputable def S336_15 (call : CallFn) (t0 : AV) (H : AHeap) : R :=
  pO (aNil t0) H fun t11 H =>
  pFa 17 t11 H fun t12 H =>
  ldK (.some 5) H t12 fun t13 H =>
  pNew [(.int .i64 (.ofNat 0)), (.int .i64 (.ofNat 0)), (.int .i64 (.ofNat 0)), (.int .i64 (.ofNat 0)), (.int .i64 (.ofNat 0))] H fun t3 H =>
  stK 5 H t3 t13 fun _ H =>
  pFa 0 t3 H fun t14 H =>
  ldK .none H t14 fun t15 H =>
  pEql t15 (.int .i64 (.ofNat 20)) H fun t17 H =>
  onBool t17 (pFa 2 t3 H fun t20 H =>
  ldK .none H t20 fun t21 H =>
  pC call 326 [t0, t21] H fun t22 H =>
  pExt t22 0 H fun t23 H =>
  pExt t22 1 H fun _ H =>
  pNew [(.int .i64 (.ofNat 0)), (.int .i64 (.ofNat 0)), (.int .i64 (.ofNat 0)), (.int .i64 (.ofNat 0)), .nilsl, .nilsl, .nilsl] H fun t4 H =>
  stK 7 H t4 t23 fun _ H =>
  ldK (.some 7) H t4 fun t26 H =>
  pFa 3 t3 H fun t27 H =>
  ldK .none H t27 fun t28 H =>
  pFa 0 t4 H fun t29 H =>
  ldK .none H t29 fun t30 H =>
  pC call 412 [t0, t26, (.int .i64 (.ofNat 0)), t28, t30] H fun t31 H =>
  pO (aUn .not t31) H fun t32 H =>
  onBool t32 (some ((.bool false), H)) (pFa 1 t3 H fun t33 H =>
  ldK .none H t33 fun t34 H =>
  pEql t34 (.int .i64 (.negSucc 0)) H fun t35 H =>
  guardA t35 false (pFa 3 t4 H fun t37 H =>
  ldK .none H t37 fun t38 H =>
  pGtr t38 (.int .i64 (.ofNat 0)) H fun t39 H =>
  S336_2 call t0 t3 t4 t35 t39 H) (S336_2 call t0 t3 t4 t35 U H))) (pEql t15 (.int .i64 (.ofNat 23)) H fun t52 H =>
  onBool t52 (pFa 1 t3 H fun t55 H =>
  ldK .none H t55 fun t56 H =>
  pC call 326 [t0, t56] H fun t57 H =>
  pExt t57 0 H fun t58 H =>
  pExt t57 1 H fun _ H =>
  pNew [(.int .i64 (.ofNat 0)), (.int .i64 (.ofNat 0)), (.int .i64 (.ofNat 0)), (.int .i64 (.ofNat 0)), .nilsl, .nilsl, .nilsl] H fun t6 H =>
  stK 7 H t6 t58 fun _ H =>
  ldK (.some 7) H t6 fun t61 H =>
  pFa 2 t3 H fun t62 H =>
  ldK .none H t62 fun t63 H =>
  pFa 0 t6 H fun t64 H =>
  ldK .none H t64 fun t65 H =>
  pC call 412 [t0, t61, (.int .i64 (.ofNat 0)), t63, t65] H fun t66 H =>
  some (t66, H)) (pEql t15 (.int .i64 (.ofNat 36)) H fun t68 H =>
  onBool t68 (pFa 2 t3 H fun t71 H =>
  ldK .none H t71 fun t72 H =>
  pC call 326 [t0, t72] H fun t73 H =>
  pExt t73 0 H fun t74 H =>
  pExt t73 1 H fun _ H =>
  pNew [(.int .i64 (.ofNat 0)), (.int .i64 (.ofNat 0)), (.int .i64 (.ofNat 0)), (.int .i64 (.ofNat 0)), .nilsl, .nilsl, .nilsl] H fun t8 H =>
  stK 7 H t8 t74 fun _ H =>
  pFa 1 t3 H fun t77 H =>
  ldK .none H t77 fun t78 H =>
  pN (aBsl 1 1 [(.int .i64 (.ofNat 0))] [(0, 1, t78)]) H fun t79 H =>
  pC call 334 [t0, (.bool true), t79] H fun t80 H =>
  guardA t80 true (ldK (.some 7) H t8 fun t83 H =>
  pFa 0 t8 H fun t84 H =>
  ldK .none H t84 fun t85 H =>
  pFa 3 t3 H fun t86 H =>
  ldK .none H t86 fun t87 H =>
  pFa 1 t8 H fun t88 H =>
  ldK .none H t88 fun t89 H =>
  pC call 412 [t0, t83, t85, t87, t89] H fun t90 H =>
  S336_3 call t80 t90 H) (S336_3 call t80 U H)) (pEql t15 (.int .i64 (.ofNat 22)) H fun t93 H =>
  onBool t93 (pFa 1 t3 H fun t94 H =>
  ldK .none H t94 fun t95 H =>
  pEql t95 (.int .i64 (.negSucc 0)) H fun t96 H =>
  onBool t96 (pO (aNil t0) H fun t98 H =>
  pFa 6 t98 H fun t99 H =>
  pFa 3 t99 H fun t100 H =>
  ldK .none H t100 fun t101 H =>
  pEql t101 (.int .i64 (.ofNat 0)) H fun t102 H =>
  some (t102, H)) (pO (aNil t0) H fun t104 H =>
  pFa 6 t104 H fun t105 H =>
  pFa 3 t105 H fun t106 H =>
  ldK .none H t106 fun t107 H =>
  pGtr t107 (.int .i64 (.ofNat 0)) H fun t108 H =>
  guardA t108 true (S336_14 call t0 t3 t108 t0 H) (S336_14 call t0 t3 t108 U H))) (some ((.bool true), H)))))
noncomputable def S336 : Ff := ⟨fun call l H => argA1 (fun t0 => S336_15 call t0 H) l⟩
/- (*gantline/verify.checker).targets -/
noncomputable def S337_0 (_ : CallFn) (n : Nat) : AV → AV → AV → AV → AHeap → R :=
  Nat.rec (motive := fun _ => AV → AV → AV → AV → AHeap → R) (fun _ _ _ _ _ => none) (fun _ q0 t3 t36 t37 t38 H => pLss t38 t37 H fun t39 H =>
  onBool t39 (pIa 4 t36 t38 H fun t40 H =>
  ldK (.some 4) H t40 fun t41 H =>
  pNew [(.int .i64 (.ofNat 0)), (.int .i64 (.ofNat 0)), (.int .i64 (.ofNat 0)), (.int .i64 (.ofNat 0))] H fun t7 H =>
  stK 4 H t7 t41 fun _ H =>
  pFa 3 t7 H fun t43 H =>
  ldK .none H t43 fun t44 H =>
  pN (aBsl 1 1 [(.int .i64 (.ofNat 0))] [(0, 1, t44)]) H fun t45 H =>
  pW (aApp 1 8 H t3 t45) fun t46 H =>
  pAdd t38 (.int .i64 (.ofNat 1)) H fun t47 H =>
  q0 t46 t36 t37 t47 H) (some (t3, H))) n
noncomputable def S337_1 (call : CallFn) (t0 : AV) (H : AHeap) : R :=
  pO (aNil t0) H fun t9 H =>
  pFa 17 t9 H fun t10 H =>
  pFa 0 t10 H fun t11 H =>
  ldK .none H t11 fun t12 H =>
  pEql t12 (.int .i64 (.ofNat 18)) H fun t14 H =>
  onBool t14 (pO (aNil t0) H fun t16 H =>
  pFa 17 t16 H fun t17 H =>
  pFa 1 t17 H fun t18 H =>
  ldK .none H t18 fun t19 H =>
  pN (aBsl 1 1 [(.int .i64 (.ofNat 0))] [(0, 1, t19)]) H fun t20 H =>
  some (t20, H)) (pEql t12 (.int .i64 (.ofNat 19)) H fun t22 H =>
  onBool t22 (pO (aNil t0) H fun t24 H =>
  pFa 17 t24 H fun t25 H =>
  pFa 2 t25 H fun t26 H =>
  ldK .none H t26 fun t27 H =>
  pN (aBsl 1 1 [(.int .i64 (.ofNat 0))] [(0, 1, t27)]) H fun t28 H =>
  some (t28, H)) (pEql t12 (.int .i64 (.ofNat 41)) H fun t30 H =>
  onBool t30 (pC call 327 [t0] H fun t33 H =>
  pExt t33 0 H fun t34 H =>
  pExt t33 1 H fun _ H =>
  pO (aLen .sl H t34) H fun t37 H =>
  S337_0 call 1000000 .nilsl t34 t37 (.int .i64 (.ofNat 0)) H) (some (.nilsl, H))))
noncomputable def S337 : Ff := ⟨fun call l H => argA1 (fun t0 => S337_1 call t0 H) l⟩
/- gantline/live.given -/
noncomputable def S340_0 (call : CallFn) (t0 : AV) (H : AHeap) : R :=
  pC call 249 [t0, (.fn 413 [] [])] H fun t4 H =>
  some (t4, H)
noncomputable def S340 : Ff := ⟨fun call l H => argA1 (fun t0 => S340_0 call t0 H) l⟩
/- slices.IndexFunc[[]int,int] -/
noncomputable def S342_0 (call : CallFn) (n : Nat) : AV → AV → AV → AV → AHeap → R :=
  Nat.rec (motive := fun _ => AV → AV → AV → AV → AHeap → R) (fun _ _ _ _ _ => none) (fun _ q0 t0 t1 t7 t8 H => pLss t8 t7 H fun t9 H =>
  onBool t9 (pIa 1 t0 t8 H fun t14 H =>
  ldK .none H t14 fun t15 H =>
  pV call t1 [t15] H fun t16 H =>
  onBool t16 (some (t8, H)) (pAdd t8 (.int .i64 (.ofNat 1)) H fun t18 H =>
  q0 t0 t1 t7 t18 H)) (some ((.int .i64 (.negSucc 0)), H))) n
noncomputable def S342_1 (call : CallFn) (t0 t1 : AV) (H : AHeap) : R :=
  pO (aLen .sl H t0) H fun t7 H =>
  S342_0 call 1000000 t0 t1 t7 (.int .i64 (.ofNat 0)) H
noncomputable def S342 : Ff := ⟨fun call l H => argA2 (fun t0 t1 => S342_1 call t0 t1 H) l⟩
/- slices.pdqsortOrdered[int] -/
noncomputable def S343_1 (call : CallFn) (q0 : AV → AV → AV → AV → AV → AV → AHeap → R) (t0 t1 t2 t3 t8 t9 t10 t11 t75 t86 : AV) (H : AHeap) : R :=
  pPick t75 t86 (.bool false) H fun t87 H =>
  onBool t87 (pC call 421 [t0, t1, t2, t11] H fun t92 H =>
  q0 t0 t92 t2 t3 t8 t9 H) (pC call 422 [t0, t1, t2, t11] H fun t99 H =>
  pExt t99 0 H fun t100 H =>
  pExt t99 1 H fun t101 H =>
  pSub t100 t1 H fun t105 H =>
  pSub t2 t100 H fun t108 H =>
  pO (aBin .quo t10 (.int .i64 (.ofNat 8))) H fun t110 H =>
  pLss t105 t108 H fun t113 H =>
  onBool t113 (pGeq t105 t110 H fun t116 H =>
  pC call 343 [t0, t1, t100, t3] H fun _ H =>
  pAdd t100 (.int .i64 (.ofNat 1)) H fun t123 H =>
  q0 t0 t123 t2 t3 t116 t101 H) (pGeq t108 t110 H fun t126 H =>
  pAdd t100 (.int .i64 (.ofNat 1)) H fun t129 H =>
  pC call 343 [t0, t129, t2, t3] H fun _ H =>
  q0 t0 t1 t100 t3 t126 t101 H))
noncomputable def S343_2 (call : CallFn) (q0 : AV → AV → AV → AV → AV → AV → AHeap → R) (t0 t1 t2 t3 t8 t9 t10 t11 t75 t85 : AV) (H : AHeap) : R :=
  guardA t75 true (pO (aUn .not t85) H fun t86 H =>
  S343_1 call q0 t0 t1 t2 t3 t8 t9 t10 t11 t75 t86 H) (S343_1 call q0 t0 t1 t2 t3 t8 t9 t10 t11 t75 U H)
noncomputable def S343_3 (call : CallFn) (q0 : AV → AV → AV → AV → AV → AV → AHeap → R) (t0 t1 t2 t3 t8 t9 t10 t11 t75 t80 t84 : AV) (H : AHeap) : R :=
  guardA t75 true (pC call 420 [t80, t84] H fun t85 H =>
  S343_2 call q0 t0 t1 t2 t3 t8 t9 t10 t11 t75 t85 H) (S343_2 call q0 t0 t1 t2 t3 t8 t9 t10 t11 t75 U H)
noncomputable def S343_4 (call : CallFn) (q0 : AV → AV → AV → AV → AV → AV → AHeap → R) (t0 t1 t2 t3 t8 t9 t10 t11 t75 t80 t83 : AV) (H : AHeap) : R :=
  guardA t75 true (ldK .none H t83 fun t84 H =>
  S343_3 call q0 t0 t1 t2 t3 t8 t9 t10 t11 t75 t80 t84 H) (S343_3 call q0 t0 t1 t2 t3 t8 t9 t10 t11 t75 t80 U H)
noncomputable def S343_5 (call : CallFn) (q0 : AV → AV → AV → AV → AV → AV → AHeap → R) (t0 t1 t2 t3 t8 t9 t10 t11 t75 t80 t81 t82 : AV) (H : AHeap) : R :=
  guardA t75 true (pIa 1 t81 t82 H fun t83 H =>
  S343_4 call q0 t0 t1 t2 t3 t8 t9 t10 t11 t75 t80 t83 H) (S343_4 call q0 t0 t1 t2 t3 t8 t9 t10 t11 t75 t80 U H)
noncomputable def S343_6 (call : CallFn) (q0 : AV → AV → AV → AV → AV → AV → AHeap → R) (t0 t1 t2 t3 t8 t9 t10 t11 t75 t80 t81 : AV) (H : AHeap) : R :=
  guardA t75 true (S343_5 call q0 t0 t1 t2 t3 t8 t9 t10 t11 t75 t80 t81 t11 H) (S343_5 call q0 t0 t1 t2 t3 t8 t9 t10 t11 t75 t80 t81 U H)
noncomputable def S343_7 (call : CallFn) (q0 : AV → AV → AV → AV → AV → AV → AHeap → R) (t0 t1 t2 t3 t8 t9 t10 t11 t75 t80 : AV) (H : AHeap) : R :=
  guardA t75 true (S343_6 call q0 t0 t1 t2 t3 t8 t9 t10 t11 t75 t80 t0 H) (S343_6 call q0 t0 t1 t2 t3 t8 t9 t10 t11 t75 t80 U H)
noncomputable def S343_8 (call : CallFn) (q0 : AV → AV → AV → AV → AV → AV → AHeap → R) (t0 t1 t2 t3 t8 t9 t10 t11 t75 t79 : AV) (H : AHeap) : R :=
  guardA t75 true (ldK .none H t79 fun t80 H =>
  S343_7 call q0 t0 t1 t2 t3 t8 t9 t10 t11 t75 t80 H) (S343_7 call q0 t0 t1 t2 t3 t8 t9 t10 t11 t75 U H)
noncomputable def S343_9 (call : CallFn) (q0 : AV → AV → AV → AV → AV → AV → AHeap → R) (t0 t1 t2 t3 t8 t9 t10 t11 t75 t76 t78 : AV) (H : AHeap) : R :=
  guardA t75 true (pIa 1 t76 t78 H fun t79 H =>
  S343_8 call q0 t0 t1 t2 t3 t8 t9 t10 t11 t75 t79 H) (S343_8 call q0 t0 t1 t2 t3 t8 t9 t10 t11 t75 U H)
noncomputable def S343_10 (call : CallFn) (q0 : AV → AV → AV → AV → AV → AV → AHeap → R) (t0 t1 t2 t3 t8 t9 t10 t11 t75 t76 t77 : AV) (H : AHeap) : R :=
  guardA t75 true (pSub t77 (.int .i64 (.ofNat 1)) H fun t78 H =>
  S343_9 call q0 t0 t1 t2 t3 t8 t9 t10 t11 t75 t76 t78 H) (S343_9 call q0 t0 t1 t2 t3 t8 t9 t10 t11 t75 t76 U H)
noncomputable def S343_11 (call : CallFn) (q0 : AV → AV → AV → AV → AV → AV → AHeap → R) (t0 t1 t2 t3 t8 t9 t10 t11 t75 t76 : AV) (H : AHeap) : R :=
  guardA t75 true (S343_10 call q0 t0 t1 t2 t3 t8 t9 t10 t11 t75 t76 t1 H) (S343_10 call q0 t0 t1 t2 t3 t8 t9 t10 t11 t75 t76 U H)
noncomputable def S343_12 (call : CallFn) (q0 : AV → AV → AV → AV → AV → AV → AHeap → R) (t0 t1 t2 t3 t8 t9 t10 t11 : AV) (H : AHeap) : R :=
  pGtr t1 (.int .i64 (.ofNat 0)) H fun t74 H =>
  guardA t74 true (S343_11 call q0 t0 t1 t2 t3 t8 t9 t10 t11 t74 t0 H) (S343_11 call q0 t0 t1 t2 t3 t8 t9 t10 t11 t74 U H)
noncomputable def S343_13 (call : CallFn) (q0 : AV → AV → AV → AV → AV → AV → AHeap → R) (t0 t1 t2 t3 t8 t9 t10 t11 t65 t67 : AV) (H : AHeap) : R :=
  pPick t65 t67 (.bool false) H fun t68 H =>
  onBool t68 (pC call 419 [t0, t1, t2] H fun t72 H =>
  onBool t72 (some (.tup [], H)) (S343_12 call q0 t0 t1 t2 t3 t8 t9 t10 t11 H)) (S343_12 call q0 t0 t1 t2 t3 t8 t9 t10 t11 H)
noncomputable def S343_14 (call : CallFn) (q0 : AV → AV → AV → AV → AV → AV → AHeap → R) (t0 t1 t2 t3 t8 t9 t10 t11 t12 t62 t63 : AV) (H : AHeap) : R :=
  pPick t62 t63 (.bool false) H fun t64 H =>
  guardA t64 true (pEql t12 (.int .i64 (.ofNat 1)) H fun t67 H =>
  S343_13 call q0 t0 t1 t2 t3 t8 t9 t10 t11 t64 t67 H) (S343_13 call q0 t0 t1 t2 t3 t8 t9 t10 t11 t64 U H)
noncomputable def S343_15 (call : CallFn) (q0 : AV → AV → AV → AV → AV → AV → AHeap → R) (t0 t1 t2 t3 t8 t9 t10 t11 t12 : AV) (H : AHeap) : R :=
  guardA t8 true (S343_14 call q0 t0 t1 t2 t3 t8 t9 t10 t11 t12 t8 t9 H) (S343_14 call q0 t0 t1 t2 t3 t8 t9 t10 t11 t12 t8 U H)
noncomputable def S343_16 (call : CallFn) (q0 : AV → AV → AV → AV → AV → AV → AHeap → R) (t0 t1 t2 t3 t8 t9 t10 : AV) (H : AHeap) : R :=
  pC call 417 [t0, t1, t2] H fun t46 H =>
  pExt t46 0 H fun t47 H =>
  pExt t46 1 H fun t48 H =>
  pEql t48 (.int .i64 (.ofNat 2)) H fun t50 H =>
  onBool t50 (pC call 418 [t0, t1, t2] H fun _ H =>
  pSub t2 (.int .i64 (.ofNat 1)) H fun t56 H =>
  pSub t47 t1 H fun t59 H =>
  pSub t56 t59 H fun t60 H =>
  S343_15 call q0 t0 t1 t2 t3 t8 t9 t10 t60 (.int .i64 (.ofNat 1)) H) (S343_15 call q0 t0 t1 t2 t3 t8 t9 t10 t47 t48 H)
noncomputable def S343_0 (call : CallFn) (n : Nat) : AV → AV → AV → AV → AV → AV → AHeap → R :=
  Nat.rec (motive := fun _ => AV → AV → AV → AV → AV → AV → AHeap → R) (fun _ _ _ _ _ _ _ => none) (fun _ q0 t0 t1 t2 t3 t8 t9 H => pSub t2 t1 H fun t21 H =>
  pLeq t21 (.int .i64 (.ofNat 12)) H fun t23 H =>
  onBool t23 (pC call 414 [t0, t1, t2] H fun _ H =>
  some (.tup [], H)) (pEql t3 (.int .i64 (.ofNat 0)) H fun t29 H =>
  onBool t29 (pC call 415 [t0, t1, t2] H fun _ H =>
  some (.tup [], H)) (pO (aUn .not t8) H fun t35 H =>
  onBool t35 (pC call 416 [t0, t1, t2] H fun _ H =>
  pSub t3 (.int .i64 (.ofNat 1)) H fun t41 H =>
  S343_16 call q0 t0 t1 t2 t41 t8 t9 t21 H) (S343_16 call q0 t0 t1 t2 t3 t8 t9 t21 H)))) n
noncomputable def S343 : Ff := ⟨fun call l H => argA4 (fun t0 t1 t2 t3 => S343_0 call 1000000 t0 t1 t2 t3 (.bool true) (.bool true) H) l⟩
/- math/bits.Len -/
noncomputable def S344_0 (call : CallFn) (t0 : AV) (H : AHeap) : R :=
  onBool (.bool false) (pConv .u32 t0 H fun t4 H =>
  pC call 423 [t4] H fun t5 H =>
  some (t5, H)) (pC call 163 [t0] H fun t7 H =>
  some (t7, H))
noncomputable def S344 : Ff := ⟨fun call l H => argA1 (fun t0 => S344_0 call t0 H) l⟩
/- (*gantline/arena.Arena).Spans -/
noncomputable def S345_0 (_ : CallFn) (t0 : AV) (H : AHeap) : R :=
  pO (aNil t0) H fun t4 H =>
  pFa 1 t4 H fun t5 H =>
  ldK .none H t5 fun t6 H =>
  pO (aLen .sl H t6) H fun t7 H =>
  some (t7, H)
noncomputable def S345 : Ff := ⟨fun call l H => argA1 (fun t0 => S345_0 call t0 H) l⟩
/- gantline/grey.New -/
noncomputable def S346_0 (_ : CallFn) (H : AHeap) : R :=
  pO (someAgg (aFill [.nilsl] [])) H fun t1 H =>
  pBox t1 H fun t2 H =>
  some (t2, H)
noncomputable def S346 : Ff := ⟨fun call l H => argA0 (S346_0 call H) l⟩
/- maps.Keys[map[int]*gantline/frame.Stack,int,*gantline/frame.Stack] -/
noncomputable def S348_0 (_ : CallFn) (t0 : AV) (H : AHeap) : R :=
  pBox t0 H fun t1 H =>
  some ((.fn 425 [] [t1]), H)
noncomputable def S348 : Ff := ⟨fun call l H => argA1 (fun t0 => S348_0 call t0 H) l⟩
/- gantline/live.given$1 -/
noncomputable def S413_0 (_ : CallFn) (t0 : AV) (H : AHeap) : R :=
  pEql t0 (.int .i64 (.negSucc 0)) H fun t4 H =>
  some (t4, H)
noncomputable def S413 : Ff := ⟨fun call l H => argA1 (fun t0 => S413_0 call t0 H) l⟩
/- slices.insertionSortOrdered[int] -/
noncomputable def S414_1 (_ : CallFn) (q0 : AV → AV → AV → AV → AHeap → R) (t0 t1 t2 t6 : AV) (H : AHeap) : R :=
  pAdd t6 (.int .i64 (.ofNat 1)) H fun t14 H =>
  q0 t0 t1 t2 t14 H
noncomputable def S414_3 (call : CallFn) (q0 : AV → AV → AV → AV → AHeap → R) (q1 : AV → AV → AV → AV → AV → AHeap → R) (t0 t1 t2 t6 t7 t19 t29 : AV) (H : AHeap) : R :=
  pPick t19 t29 (.bool false) H fun t30 H =>
  onBool t30 (pSub t7 (.int .i64 (.ofNat 1)) H fun t37 H =>
  pSub t7 (.int .i64 (.ofNat 1)) H fun t40 H =>
  pIa 1 t0 t40 H fun t41 H =>
  ldK .none H t41 fun t42 H =>
  pIa 1 t0 t7 H fun t45 H =>
  ldK .none H t45 fun t46 H =>
  pIa 1 t0 t7 H fun t47 H =>
  stK 1 H t47 t42 fun _ H =>
  pIa 1 t0 t37 H fun t48 H =>
  stK 1 H t48 t46 fun _ H =>
  pSub t7 (.int .i64 (.ofNat 1)) H fun t32 H =>
  q1 t0 t1 t2 t6 t32 H) (S414_1 call q0 t0 t1 t2 t6 H)
noncomputable def S414_4 (call : CallFn) (q0 : AV → AV → AV → AV → AHeap → R) (q1 : AV → AV → AV → AV → AV → AHeap → R) (t0 t1 t2 t6 t7 t19 t23 t28 : AV) (H : AHeap) : R :=
  guardA t19 true (pC call 420 [t23, t28] H fun t29 H =>
  S414_3 call q0 q1 t0 t1 t2 t6 t7 t19 t29 H) (S414_3 call q0 q1 t0 t1 t2 t6 t7 t19 U H)
noncomputable def S414_5 (call : CallFn) (q0 : AV → AV → AV → AV → AHeap → R) (q1 : AV → AV → AV → AV → AV → AHeap → R) (t0 t1 t2 t6 t7 t19 t23 t27 : AV) (H : AHeap) : R :=
  guardA t19 true (ldK .none H t27 fun t28 H =>
  S414_4 call q0 q1 t0 t1 t2 t6 t7 t19 t23 t28 H) (S414_4 call q0 q1 t0 t1 t2 t6 t7 t19 t23 U H)
noncomputable def S414_6 (call : CallFn) (q0 : AV → AV → AV → AV → AHeap → R) (q1 : AV → AV → AV → AV → AV → AHeap → R) (t0 t1 t2 t6 t7 t19 t23 t24 t26 : AV) (H : AHeap) : R :=
  guardA t19 true (pIa 1 t24 t26 H fun t27 H =>
  S414_5 call q0 q1 t0 t1 t2 t6 t7 t19 t23 t27 H) (S414_5 call q0 q1 t0 t1 t2 t6 t7 t19 t23 U H)
noncomputable def S414_7 (call : CallFn) (q0 : AV → AV → AV → AV → AHeap → R) (q1 : AV → AV → AV → AV → AV → AHeap → R) (t0 t1 t2 t6 t7 t19 t23 t24 t25 : AV) (H : AHeap) : R :=
  guardA t19 true (pSub t25 (.int .i64 (.ofNat 1)) H fun t26 H =>
  S414_6 call q0 q1 t0 t1 t2 t6 t7 t19 t23 t24 t26 H) (S414_6 call q0 q1 t0 t1 t2 t6 t7 t19 t23 t24 U H)
noncomputable def S414_8 (call : CallFn) (q0 : AV → AV → AV → AV → AHeap → R) (q1 : AV → AV → AV → AV → AV → AHeap → R) (t0 t1 t2 t6 t7 t19 t23 t24 : AV) (H : AHeap) : R :=
  guardA t19 true (S414_7 call q0 q1 t0 t1 t2 t6 t7 t19 t23 t24 t7 H) (S414_7 call q0 q1 t0 t1 t2 t6 t7 t19 t23 t24 U H)
noncomputable def S414_9 (call : CallFn) (q0 : AV → AV → AV → AV → AHeap → R) (q1 : AV → AV → AV → AV → AV → AHeap → R) (t0 t1 t2 t6 t7 t19 t23 : AV) (H : AHeap) : R :=
  guardA t19 true (S414_8 call q0 q1 t0 t1 t2 t6 t7 t19 t23 t0 H) (S414_8 call q0 q1 t0 t1 t2 t6 t7 t19 t23 U H)
noncomputable def S414_10 (call : CallFn) (q0 : AV → AV → AV → AV → AHeap → R) (q1 : AV → AV → AV → AV → AV → AHeap → R) (t0 t1 t2 t6 t7 t19 t22 : AV) (H : AHeap) : R :=
  guardA t19 true (ldK .none H t22 fun t23 H =>
  S414_9 call q0 q1 t0 t1 t2 t6 t7 t19 t23 H) (S414_9 call q0 q1 t0 t1 t2 t6 t7 t19 U H)
noncomputable def S414_11 (call : CallFn) (q0 : AV → AV → AV → AV → AHeap → R) (q1 : AV → AV → AV → AV → AV → AHeap → R) (t0 t1 t2 t6 t7 t19 t20 t21 : AV) (H : AHeap) : R :=
  guardA t19 true (pIa 1 t20 t21 H fun t22 H =>
  S414_10 call q0 q1 t0 t1 t2 t6 t7 t19 t22 H) (S414_10 call q0 q1 t0 t1 t2 t6 t7 t19 U H)
noncomputable def S414_12 (call : CallFn) (q0 : AV → AV → AV → AV → AHeap → R) (q1 : AV → AV → AV → AV → AV → AHeap → R) (t0 t1 t2 t6 t7 t19 t20 : AV) (H : AHeap) : R :=
  guardA t19 true (S414_11 call q0 q1 t0 t1 t2 t6 t7 t19 t20 t7 H) (S414_11 call q0 q1 t0 t1 t2 t6 t7 t19 t20 U H)
noncomputable def S414_2 (call : CallFn) (q0 : AV → AV → AV → AV → AHeap → R) (n : Nat) : AV → AV → AV → AV → AV → AHeap → R :=
  Nat.rec (motive := fun _ => AV → AV → AV → AV → AV → AHeap → R) (fun _ _ _ _ _ _ => none) (fun _ q1 t0 t1 t2 t6 t7 H => pGtr t7 t1 H fun t18 H =>
  guardA t18 true (S414_12 call q0 q1 t0 t1 t2 t6 t7 t18 t0 H) (S414_12 call q0 q1 t0 t1 t2 t6 t7 t18 U H)) n
noncomputable def S414_0 (call : CallFn) (n : Nat) : AV → AV → AV → AV → AHeap → R :=
  Nat.rec (motive := fun _ => AV → AV → AV → AV → AHeap → R) (fun _ _ _ _ _ => none) (fun _ q0 t0 t1 t2 t6 H => pLss t6 t2 H fun t12 H =>
  onBool t12 (S414_2 call q0 1000000 t0 t1 t2 t6 t6 H) (some (.tup [], H))) n
noncomputable def S414_13 (call : CallFn) (t0 t1 t2 : AV) (H : AHeap) : R :=
  pAdd t1 (.int .i64 (.ofNat 1)) H fun t9 H =>
  S414_0 call 1000000 t0 t1 t2 t9 H
noncomputable def S414 : Ff := ⟨fun call l H => argA3 (fun t0 t1 t2 => S414_13 call t0 t1 t2 H) l⟩
end Go.Proofs.YtooindilclphjaaGreatDoor
