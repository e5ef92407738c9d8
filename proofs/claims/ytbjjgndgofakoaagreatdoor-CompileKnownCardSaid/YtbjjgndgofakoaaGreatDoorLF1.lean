/- Plain functions, printed: part 1. -/
import Derived.Test.YtbjjgndgofakoaaGreatDoorAdE
import Derived.Test.YtbjjgndgofakoaaGreatDoorProg
import Derived.KernelRfl
namespace Go.Proofs.YtbjjgndgofakoaaGreatDoor
open Go.Ab
set_option maxRecDepth 100000
/- gantline/tree.Good -/
noncomputable def S64_1 (call : CallFn) (q0 : AV → AV → AV → AV → AHeap → R) (t3 t6 t7 t40 t41 t42 : AV) (H : AHeap) : R :=
  ldK (.some 4) H t6 fun t59 H =>
  pC call 131 [t59, t7] H fun t61 H =>
  pO (aUn .not t61) H fun t62 H =>
  onBool t62 (some ((.bool false), H)) (pAdd t42 (.int .i64 (.ofNat 1)) H fun t63 H =>
  q0 t3 t40 t41 t63 H)
noncomputable def S64_0 (call : CallFn) (n : Nat) : AV → AV → AV → AV → AHeap → R :=
  Nat.rec (motive := fun _ => AV → AV → AV → AV → AHeap → R) (fun _ _ _ _ _ => none) (fun _ q0 t3 t40 t41 t42 H => pLss t42 t41 H fun t43 H =>
  onBool t43 (pIa 4 t40 t42 H fun t45 H =>
  ldK (.some 4) H t45 fun t46 H =>
  pNew [(.str []), (.str []), (.int .i64 (.ofNat 0)), .nilsl] H fun t6 H =>
  stK 4 H t6 t46 fun _ H =>
  pFa 1 t3 H fun t47 H =>
  ldK .none H t47 fun t48 H =>
  pFa 0 t3 H fun t50 H =>
  ldK .none H t50 fun t51 H =>
  pO (aLen .sl H t51) H fun t52 H =>
  pLss t42 t52 H fun t53 H =>
  onBool t53 (pFa 0 t3 H fun t54 H =>
  ldK .none H t54 fun t55 H =>
  pIa 1 t55 t42 H fun t57 H =>
  ldK .none H t57 fun t58 H =>
  S64_1 call q0 t3 t6 t58 t40 t41 t42 H) (S64_1 call q0 t3 t6 t48 t40 t41 t42 H)) (some ((.bool true), H))) n
noncomputable def S64_2 (call : CallFn) (t1 t3 t25 t37 : AV) (H : AHeap) : R :=
  pPick t25 (.bool true) t37 H fun t38 H =>
  onBool t38 (some ((.bool false), H)) (pFa 3 t1 H fun t39 H =>
  ldK .none H t39 fun t40 H =>
  pO (aLen .sl H t40) H fun t41 H =>
  S64_0 call 1000000 t3 t40 t41 (.int .i64 (.ofNat 0)) H)
noncomputable def S64_3 (call : CallFn) (t1 t3 t25 t29 t36 : AV) (H : AHeap) : R :=
  guardA t25 false (pPick t29 t36 (.bool false) H fun t37 H =>
  S64_2 call t1 t3 t25 t37 H) (S64_2 call t1 t3 t25 U H)
noncomputable def S64_4 (call : CallFn) (t1 t3 t25 t29 : AV) (H : AHeap) : R :=
  guardA t29 true (pFa 3 t1 H fun t30 H =>
  ldK .none H t30 fun t31 H =>
  pO (aLen .sl H t31) H fun t32 H =>
  pFa 0 t3 H fun t33 H =>
  ldK .none H t33 fun t34 H =>
  pO (aLen .sl H t34) H fun t35 H =>
  pGtr t32 t35 H fun t36 H =>
  S64_3 call t1 t3 t25 t29 t36 H) (S64_3 call t1 t3 t25 t29 U H)
noncomputable def S64_5 (call : CallFn) (t1 t3 t16 t23 : AV) (H : AHeap) : R :=
  pPick t16 (.bool true) t23 H fun t24 H =>
  guardA t24 false (pFa 1 t3 H fun t26 H =>
  ldK .none H t26 fun t27 H =>
  pEql t27 (.str []) H fun t28 H =>
  S64_4 call t1 t3 t24 t28 H) (S64_4 call t1 t3 t24 U H)
noncomputable def S64_6 (call : CallFn) (t0 : AV) (H : AHeap) : R :=
  pBox t0 H fun t1 H =>
  pFa 0 t1 H fun t9 H =>
  ldK .none H t9 fun t10 H =>
  pC call 130 [t10] H fun t11 H =>
  pExt t11 0 H fun t12 H =>
  pExt t11 1 H fun t13 H =>
  pNew [.nilsl, (.str [])] H fun t3 H =>
  stK 2 H t3 t12 fun _ H =>
  pO (aUn .not t13) H fun t15 H =>
  guardA t15 false (pFa 3 t1 H fun t17 H =>
  ldK .none H t17 fun t18 H =>
  pO (aLen .sl H t18) H fun t19 H =>
  pFa 0 t3 H fun t20 H =>
  ldK .none H t20 fun t21 H =>
  pO (aLen .sl H t21) H fun t22 H =>
  pLss t19 t22 H fun t23 H =>
  S64_5 call t1 t3 t15 t23 H) (S64_5 call t1 t3 t15 U H)
noncomputable def S64 : Ff := ⟨fun call l H => argA1 (fun t0 => S64_6 call t0 H) l⟩
/- slices.ContainsFunc[[]gantline/tree.Node,gantline/tree.Node] -/
noncomputable def S65_0 (call : CallFn) (t0 t1 : AV) (H : AHeap) : R :=
  pC call 67 [t0, t1] H fun t7 H =>
  pGeq t7 (.int .i64 (.ofNat 0)) H fun t8 H =>
  some (t8, H)
noncomputable def S65 : Ff := ⟨fun call l H => argA2 (fun t0 t1 => S65_0 call t0 t1 H) l⟩
/- gantline/check.whole$1 -/
noncomputable def S66_0 (call : CallFn) (t0 : AV) (H : AHeap) : R :=
  pBox t0 H fun t1 H =>
  ldK (.some 4) H t1 fun t3 H =>
  pC call 21 [t3] H fun t4 H =>
  pO (aUn .not t4) H fun t5 H =>
  some (t5, H)
noncomputable def S66 : Ff := ⟨fun call l H => argA1 (fun t0 => S66_0 call t0 H) l⟩
/- slices.IndexFunc[[]gantline/tree.Node,gantline/tree.Node] -/
noncomputable def S67_0 (call : CallFn) (n : Nat) : AV → AV → AV → AV → AHeap → R :=
  Nat.rec (motive := fun _ => AV → AV → AV → AV → AHeap → R) (fun _ _ _ _ _ => none) (fun _ q0 t0 t1 t7 t8 H => pLss t8 t7 H fun t9 H =>
  onBool t9 (pIa 4 t0 t8 H fun t14 H =>
  ldK (.some 4) H t14 fun t15 H =>
  pV call t1 [t15] H fun t16 H =>
  onBool t16 (some (t8, H)) (pAdd t8 (.int .i64 (.ofNat 1)) H fun t18 H =>
  q0 t0 t1 t7 t18 H)) (some ((.int .i64 (.negSucc 0)), H))) n
noncomputable def S67_1 (call : CallFn) (t0 t1 : AV) (H : AHeap) : R :=
  pO (aLen .sl H t0) H fun t7 H =>
  S67_0 call 1000000 t0 t1 t7 (.int .i64 (.ofNat 0)) H
noncomputable def S67 : Ff := ⟨fun call l H => argA2 (fun t0 t1 => S67_1 call t0 t1 H) l⟩
/- (*gantline/check.checker).decl$1 -/
noncomputable def S68_0 (_ : CallFn) (t9 t13 : AV) (H : AHeap) : R :=
  pPick t9 t13 (.bool false) H fun t14 H =>
  some (t14, H)
noncomputable def S68_1 (call : CallFn) (t0 t1 t2 : AV) (H : AHeap) : R :=
  pBox t0 H fun t3 H =>
  pFa 0 t3 H fun t5 H =>
  ldK .none H t5 fun t6 H =>
  ldK .none H t1 fun t7 H =>
  pEql t6 t7 H fun t8 H =>
  guardA t8 true (pFa 1 t3 H fun t10 H =>
  ldK .none H t10 fun t11 H =>
  ldK .none H t2 fun t12 H =>
  pEql t11 t12 H fun t13 H =>
  S68_0 call t8 t13 H) (S68_0 call t8 U H)
noncomputable def S68 : Ff := ⟨fun call l H => argA3 (fun t0 t1 t2 => S68_1 call t0 t1 t2 H) l⟩
/- (*gantline/check.checker).fault -/
noncomputable def S69_0 (_ : CallFn) (t0 t1 : AV) (H : AHeap) : R :=
  pO (aNil t0) H fun t5 H =>
  pFa 4 t5 H fun t6 H =>
  ldK .none H t6 fun t7 H =>
  pO (aUn .not t7) H fun t8 H =>
  onBool t8 (pO (aNil t0) H fun t12 H =>
  pFa 4 t12 H fun t13 H =>
  stK 1 H t13 (.bool true) fun _ H =>
  pO (aNil t0) H fun t14 H =>
  pFa 5 t14 H fun t15 H =>
  stK 1 H t15 t1 fun _ H =>
  some (.tup [], H)) (some (.tup [], H))
noncomputable def S69 : Ff := ⟨fun call l H => argA2 (fun t0 t1 => S69_0 call t0 t1 H) l⟩
/- (*gantline/check.checker).stmts -/
noncomputable def S71_1 (_ : CallFn) (q0 : AV → AV → AV → AV → AHeap → R) (t0 t7 t8 t9 : AV) (H : AHeap) : R :=
  pAdd t9 (.int .i64 (.ofNat 1)) H fun t21 H =>
  q0 t0 t7 t8 t21 H
noncomputable def S71_0 (call : CallFn) (n : Nat) : AV → AV → AV → AV → AHeap → R :=
  Nat.rec (motive := fun _ => AV → AV → AV → AV → AHeap → R) (fun _ _ _ _ _ => none) (fun _ q0 t0 t7 t8 t9 H => pLss t9 t8 H fun t10 H =>
  onBool t10 (pIa 4 t7 t9 H fun t11 H =>
  ldK (.some 4) H t11 fun t12 H =>
  pNew [(.str []), (.str []), (.int .i64 (.ofNat 0)), .nilsl] H fun t5 H =>
  stK 4 H t5 t12 fun _ H =>
  pO (aNil t0) H fun t14 H =>
  pFa 4 t14 H fun t15 H =>
  ldK .none H t15 fun t16 H =>
  pO (aUn .not t16) H fun t17 H =>
  onBool t17 (ldK (.some 4) H t5 fun t19 H =>
  pC call 132 [t0, t19] H fun _ H =>
  S71_1 call q0 t0 t7 t8 t9 H) (S71_1 call q0 t0 t7 t8 t9 H)) (some (.tup [], H))) n
noncomputable def S71_2 (call : CallFn) (t0 t1 : AV) (H : AHeap) : R :=
  pBox t1 H fun t3 H =>
  pFa 3 t3 H fun t6 H =>
  ldK .none H t6 fun t7 H =>
  pO (aLen .sl H t7) H fun t8 H =>
  S71_0 call 1000000 t0 t7 t8 (.int .i64 (.ofNat 0)) H
noncomputable def S71 : Ff := ⟨fun call l H => argA2 (fun t0 t1 => S71_2 call t0 t1 H) l⟩
/- gantline/lower.address -/
noncomputable def S73_0 (_ : CallFn) (t6 t9 : AV) (H : AHeap) : R :=
  pPick t6 t9 (.bool false) H fun t10 H =>
  some (t10, H)
noncomputable def S73_1 (call : CallFn) (t0 : AV) (H : AHeap) : R :=
  pBox t0 H fun t1 H =>
  pFa 0 t1 H fun t3 H =>
  ldK .none H t3 fun t4 H =>
  pNeq t4 (.str [105, 110, 116]) H fun t5 H =>
  guardA t5 true (pFa 0 t1 H fun t7 H =>
  ldK .none H t7 fun t8 H =>
  pNeq t8 (.str [98, 111, 111, 108]) H fun t9 H =>
  S73_0 call t5 t9 H) (S73_0 call t5 U H)
noncomputable def S73 : Ff := ⟨fun call l H => argA1 (fun t0 => S73_1 call t0 H) l⟩
/- (*gantline/lower.builder).fresh -/
noncomputable def S75_0 (_ : CallFn) (t0 t1 : AV) (H : AHeap) : R :=
  pO (aNil t0) H fun t41 H =>
  pFa 2 t41 H fun t42 H =>
  ldK .none H t42 fun t43 H =>
  pN (aBsl 1 1 [(.bool false)] [(0, 1, t1)]) H fun t45 H =>
  pO (aNil t0) H fun t48 H =>
  pFa 3 t48 H fun t49 H =>
  ldK .none H t49 fun t50 H =>
  pN (aBsl 1 1 [(.bool false)] [(0, 1, (.bool true))]) H fun t51 H =>
  pW (aApp 1 1 H t43 t45) fun t46 H =>
  andR (andB (ckV (aLoad .none H t49) t50) true) (
  pW (aApp 1 1 H t50 t51) fun t52 H =>
  pO (aNil t0) H fun t53 H =>
  pFa 2 t53 H fun t54 H =>
  stK 1 H t54 t46 fun _ H =>
  pO (aNil t0) H fun t55 H =>
  pFa 3 t55 H fun t56 H =>
  stK 1 H t56 t52 fun _ H =>
  pO (aNil t0) H fun t58 H =>
  pFa 2 t58 H fun t59 H =>
  ldK .none H t59 fun t60 H =>
  pO (aLen .sl H t60) H fun t61 H =>
  pSub t61 (.int .i64 (.ofNat 1)) H fun t62 H =>
  some (t62, H))
noncomputable def S75_2 (_ : CallFn) (q0 : AV → AV → AV → AV → AV → AHeap → R) (t0 t1 t5 t10 t11 t12 t19 t28 : AV) (H : AHeap) : R :=
  pPick t19 t28 (.bool false) H fun t29 H =>
  onBool t29 (pO (aNil t0) H fun t31 H =>
  pFa 3 t31 H fun t32 H =>
  ldK .none H t32 fun t33 H =>
  pIa 1 t33 t5 H fun t35 H =>
  stK 1 H t35 (.bool true) fun _ H =>
  some (t5, H)) (pAdd t12 (.int .i64 (.ofNat 1)) H fun t37 H =>
  q0 t0 t1 t10 t11 t37 H)
noncomputable def S75_1 (call : CallFn) (n : Nat) : AV → AV → AV → AV → AV → AHeap → R :=
  Nat.rec (motive := fun _ => AV → AV → AV → AV → AV → AHeap → R) (fun _ _ _ _ _ _ => none) (fun _ q0 t0 t1 t10 t11 t12 H => pLss t12 t11 H fun t13 H =>
  onBool t13 (pIa 1 t10 t12 H fun t15 H =>
  ldK .none H t15 fun t16 H =>
  pO (aUn .not t16) H fun t18 H =>
  guardA t18 true (pO (aNil t0) H fun t21 H =>
  pFa 2 t21 H fun t22 H =>
  ldK .none H t22 fun t23 H =>
  pIa 1 t23 t12 H fun t25 H =>
  ldK .none H t25 fun t26 H =>
  pO (aEq false .bool t26 t1) H fun t28 H =>
  S75_2 call q0 t0 t1 t12 t10 t11 t12 t18 t28 H) (S75_2 call q0 t0 t1 t12 t10 t11 t12 t18 U H)) (S75_0 call t0 t1 H)) n
noncomputable def S75_3 (call : CallFn) (t0 t1 : AV) (H : AHeap) : R :=
  pO (aNil t0) H fun t8 H =>
  pFa 3 t8 H fun t9 H =>
  ldK .none H t9 fun t10 H =>
  pO (aLen .sl H t10) H fun t11 H =>
  S75_1 call 1000000 t0 t1 t10 t11 (.int .i64 (.ofNat 0)) H
noncomputable def S75 : Ff := ⟨fun call l H => argA2 (fun t0 t1 => S75_3 call t0 t1 H) l⟩
/- (*gantline/lower.builder).stmts -/
noncomputable def S77_0 (_ : CallFn) (t28 t44 t50 : AV) (H : AHeap) : R :=
  pPick t44 (.bool true) t50 H fun t51 H =>
  pO (aNil t28) H fun t52 H =>
  pFa 10 t52 H fun t53 H =>
  stK 1 H t53 t51 fun _ H =>
  some (.tup [], H)
noncomputable def S77_1 (call : CallFn) (t28 t44 t49 : AV) (H : AHeap) : R :=
  guardA t44 false (pGtr t49 (.int .i64 (.ofNat 248)) H fun t50 H =>
  S77_0 call t28 t44 t50 H) (S77_0 call t28 t44 U H)
noncomputable def S77_2 (call : CallFn) (t28 t44 t48 : AV) (H : AHeap) : R :=
  guardA t44 false (pO (aLen .sl H t48) H fun t49 H =>
  S77_1 call t28 t44 t49 H) (S77_1 call t28 t44 U H)
noncomputable def S77_3 (call : CallFn) (t28 t44 t47 : AV) (H : AHeap) : R :=
  guardA t44 false (ldK .none H t47 fun t48 H =>
  S77_2 call t28 t44 t48 H) (S77_2 call t28 t44 U H)
noncomputable def S77_4 (call : CallFn) (t28 t44 t46 : AV) (H : AHeap) : R :=
  guardA t44 false (pFa 2 t46 H fun t47 H =>
  S77_3 call t28 t44 t47 H) (S77_3 call t28 t44 U H)
noncomputable def S77_5 (call : CallFn) (t28 t44 t45 : AV) (H : AHeap) : R :=
  guardA t44 false (pO (aNil t45) H fun t46 H =>
  S77_4 call t28 t44 t46 H) (S77_4 call t28 t44 U H)
noncomputable def S77_6 (call : CallFn) (t0 t28 t36 t42 : AV) (H : AHeap) : R :=
  pPick t36 (.bool true) t42 H fun t43 H =>
  guardA t43 false (S77_5 call t28 t43 t0 H) (S77_5 call t28 t43 U H)
noncomputable def S77_7 (call : CallFn) (t0 t28 t36 t41 : AV) (H : AHeap) : R :=
  guardA t36 false (pGtr t41 (.int .i64 (.ofNat 2048)) H fun t42 H =>
  S77_6 call t0 t28 t36 t42 H) (S77_6 call t0 t28 t36 U H)
noncomputable def S77_8 (call : CallFn) (t0 t28 t36 t40 : AV) (H : AHeap) : R :=
  guardA t36 false (pO (aLen .sl H t40) H fun t41 H =>
  S77_7 call t0 t28 t36 t41 H) (S77_7 call t0 t28 t36 U H)
noncomputable def S77_9 (call : CallFn) (t0 t28 t36 t39 : AV) (H : AHeap) : R :=
  guardA t36 false (ldK .none H t39 fun t40 H =>
  S77_8 call t0 t28 t36 t40 H) (S77_8 call t0 t28 t36 U H)
noncomputable def S77_10 (call : CallFn) (t0 t28 t36 t38 : AV) (H : AHeap) : R :=
  guardA t36 false (pFa 4 t38 H fun t39 H =>
  S77_9 call t0 t28 t36 t39 H) (S77_9 call t0 t28 t36 U H)
noncomputable def S77_11 (call : CallFn) (t0 t28 t36 t37 : AV) (H : AHeap) : R :=
  guardA t36 false (pO (aNil t37) H fun t38 H =>
  S77_10 call t0 t28 t36 t38 H) (S77_10 call t0 t28 t36 U H)
noncomputable def S77_12 (call : CallFn) (t0 : AV) (H : AHeap) : R :=
  pO (aNil t0) H fun t26 H =>
  pFa 0 t26 H fun t27 H =>
  ldK .none H t27 fun t28 H =>
  pO (aNil t0) H fun t30 H =>
  pFa 0 t30 H fun t31 H =>
  ldK .none H t31 fun t32 H =>
  pO (aNil t32) H fun t33 H =>
  pFa 10 t33 H fun t34 H =>
  ldK .none H t34 fun t35 H =>
  guardA t35 false (S77_11 call t0 t28 t35 t0 H) (S77_11 call t0 t28 t35 U H)
noncomputable def S77_14 (_ : CallFn) (q0 : AV → AV → AV → AV → AHeap → R) (t0 t7 t8 t9 : AV) (H : AHeap) : R :=
  pAdd t9 (.int .i64 (.ofNat 1)) H fun t24 H =>
  q0 t0 t7 t8 t24 H
noncomputable def S77_13 (call : CallFn) (n : Nat) : AV → AV → AV → AV → AHeap → R :=
  Nat.rec (motive := fun _ => AV → AV → AV → AV → AHeap → R) (fun _ _ _ _ _ => none) (fun _ q0 t0 t7 t8 t9 H => pLss t9 t8 H fun t10 H =>
  onBool t10 (pIa 4 t7 t9 H fun t11 H =>
  ldK (.some 4) H t11 fun t12 H =>
  pNew [(.str []), (.str []), (.int .i64 (.ofNat 0)), .nilsl] H fun t5 H =>
  stK 4 H t5 t12 fun _ H =>
  pO (aNil t0) H fun t14 H =>
  pFa 0 t14 H fun t15 H =>
  ldK .none H t15 fun t16 H =>
  pO (aNil t16) H fun t17 H =>
  pFa 10 t17 H fun t18 H =>
  ldK .none H t18 fun t19 H =>
  pO (aUn .not t19) H fun t20 H =>
  onBool t20 (ldK (.some 4) H t5 fun t22 H =>
  pC call 135 [t0, t22] H fun _ H =>
  S77_14 call q0 t0 t7 t8 t9 H) (S77_14 call q0 t0 t7 t8 t9 H)) (S77_12 call t0 H)) n
noncomputable def S77_15 (call : CallFn) (t0 t1 : AV) (H : AHeap) : R :=
  pBox t1 H fun t3 H =>
  pFa 3 t3 H fun t6 H =>
  ldK .none H t6 fun t7 H =>
  pO (aLen .sl H t7) H fun t8 H =>
  S77_13 call 1000000 t0 t7 t8 (.int .i64 (.ofNat 0)) H
noncomputable def S77 : Ff := ⟨fun call l H => argA2 (fun t0 t1 => S77_15 call t0 t1 H) l⟩
/- (*gantline/lower.builder).emit -/
noncomputable def S78_0 (_ : CallFn) (t0 t1 : AV) (H : AHeap) : R :=
  pBox t1 H fun t3 H =>
  pO (aNil t0) H fun t7 H =>
  pFa 4 t7 H fun t8 H =>
  ldK .none H t8 fun t9 H =>
  ldK (.some 5) H t3 fun t10 H =>
  pN (aBsl 5 1 [(.int .i64 (.ofNat 0)), (.int .i64 (.ofNat 0)), (.int .i64 (.ofNat 0)), (.int .i64 (.ofNat 0)), (.int .i64 (.ofNat 0))] [(0, 5, t10)]) H fun t11 H =>
  pW (aApp 5 40 H t9 t11) fun t12 H =>
  pO (aNil t0) H fun t13 H =>
  pFa 4 t13 H fun t14 H =>
  stK 1 H t14 t12 fun _ H =>
  pO (aNil t0) H fun t16 H =>
  pFa 4 t16 H fun t17 H =>
  ldK .none H t17 fun t18 H =>
  pO (aLen .sl H t18) H fun t19 H =>
  pSub t19 (.int .i64 (.ofNat 1)) H fun t20 H =>
  some (t20, H)
noncomputable def S78 : Ff := ⟨fun call l H => argA2 (fun t0 t1 => S78_0 call t0 t1 H) l⟩
/- gantline/lower.result -/
noncomputable def S79_0 (call : CallFn) (t0 : AV) (H : AHeap) : R :=
  pBox t0 H fun t1 H =>
  pFa 0 t1 H fun t4 H =>
  ldK .none H t4 fun t5 H =>
  pEql t5 (.str [110, 111, 110, 101]) H fun t6 H =>
  onBool t6 (some ((.int .i64 (.ofNat 0)), H)) (ldK (.some 4) H t1 fun t8 H =>
  pC call 73 [t8] H fun t9 H =>
  onBool t9 (some ((.int .i64 (.ofNat 2)), H)) (some ((.int .i64 (.ofNat 1)), H)))
noncomputable def S79 : Ff := ⟨fun call l H => argA1 (fun t0 => S79_0 call t0 H) l⟩
/- gantline/emit.clone -/
noncomputable def S80_0 (_ : CallFn) (t1 t2 : AV) (H : AHeap) : R :=
  ldK (.some 6) H t1 fun t60 H =>
  stK 6 H t2 t60 fun _ H =>
  ob (allM (fun o => o) [aLoad (.some 6) H t2]) fun vs => some (resV vs, H)
noncomputable def S80_1 (call : CallFn) (n : Nat) : AV → AV → AV → AV → AHeap → R :=
  Nat.rec (motive := fun _ => AV → AV → AV → AV → AHeap → R) (fun _ _ _ _ _ => none) (fun _ q0 t1 t2 t27 t28 H => pLss t28 t27 H fun t29 H =>
  onBool t29 (pFa 4 t1 H fun t31 H =>
  ldK .none H t31 fun t32 H =>
  pIa 7 t32 t28 H fun t34 H =>
  pO (aNil t34) H fun t39 H =>
  pFa 4 t39 H fun t40 H =>
  ldK .none H t40 fun t41 H =>
  pO (aNil t34) H fun t44 H =>
  pFa 5 t44 H fun t45 H =>
  ldK .none H t45 fun t46 H =>
  pO (aNil t34) H fun t49 H =>
  pFa 6 t49 H fun t50 H =>
  ldK .none H t50 fun t51 H =>
  pC call 92 [t41] H fun t42 H =>
  andR (andB (ckV (aLoad .none H t45) t46) (andB (ckV (aLoad .none H t50) t51) true)) (
  pC call 96 [t46] H fun t47 H =>
  andR (andB (ckV (aLoad .none H t50) t51) true) (
  pC call 97 [t51] H fun t52 H =>
  pO (aNil t34) H fun t53 H =>
  pFa 4 t53 H fun t54 H =>
  stK 1 H t54 t42 fun _ H =>
  pO (aNil t34) H fun t55 H =>
  pFa 5 t55 H fun t56 H =>
  stK 1 H t56 t47 fun _ H =>
  pO (aNil t34) H fun t57 H =>
  pFa 6 t57 H fun t58 H =>
  stK 1 H t58 t52 fun _ H =>
  pAdd t28 (.int .i64 (.ofNat 1)) H fun t59 H =>
  q0 t1 t2 t27 t59 H))) (S80_0 call t1 t2 H)) n
noncomputable def S80_2 (call : CallFn) (t0 : AV) (H : AHeap) : R :=
  pBox t0 H fun t1 H =>
  pNew [.nilsl, .nilsl, .nilsl, .nilsl, .nilsl, (.int .i64 (.ofNat 0))] H fun t2 H =>
  pFa 0 t1 H fun t5 H =>
  ldK .none H t5 fun t6 H =>
  pFa 1 t1 H fun t8 H =>
  ldK .none H t8 fun t9 H =>
  pFa 2 t1 H fun t11 H =>
  ldK .none H t11 fun t12 H =>
  pFa 3 t1 H fun t14 H =>
  ldK .none H t14 fun t15 H =>
  pC call 91 [t6] H fun t7 H =>
  andR (andB (ckV (aLoad .none H t8) t9) (andB (ckV (aLoad .none H t11) t12) (andB (ckV (aLoad .none H t14) t15) true))) (
  pFa 0 t1 H fun t17 H =>
  pC call 92 [t9] H fun t10 H =>
  andR (andB (ckV (aLoad .none H t11) t12) (andB (ckV (aLoad .none H t14) t15) true)) (
  pC call 93 [t12] H fun t13 H =>
  andR (andB (ckV (aLoad .none H t14) t15) true) (
  pC call 94 [t15] H fun t16 H =>
  stK 1 H t17 t7 fun _ H =>
  pFa 1 t1 H fun t18 H =>
  stK 1 H t18 t10 fun _ H =>
  pFa 2 t1 H fun t19 H =>
  stK 1 H t19 t13 fun _ H =>
  pFa 3 t1 H fun t20 H =>
  stK 1 H t20 t16 fun _ H =>
  pFa 4 t1 H fun t21 H =>
  ldK .none H t21 fun t22 H =>
  pC call 95 [t22] H fun t23 H =>
  pFa 4 t1 H fun t24 H =>
  stK 1 H t24 t23 fun _ H =>
  pFa 4 t1 H fun t25 H =>
  ldK .none H t25 fun t26 H =>
  pO (aLen .sl H t26) H fun t27 H =>
  S80_1 call 1000000 t1 t2 t27 (.int .i64 (.ofNat 0)) H)))
noncomputable def S80 : Ff := ⟨fun call l H => argA1 (fun t0 => S80_2 call t0 H) l⟩
/- gantline/emit.polled -/
noncomputable def S81_1 (_ : CallFn) (q0 : AV → AV → AV → AV → AV → AV → AHeap → R) (t2 t3 t5 t15 t16 t17 : AV) (H : AHeap) : R :=
  pAdd t17 (.int .i64 (.ofNat 1)) H fun t50 H =>
  q0 t2 t3 t5 t15 t16 t50 H
noncomputable def S81_3 (_ : CallFn) (q1 : AV → AV → AV → AV → AV → AV → AV → AV → AV → AV → AHeap → R) (t2 t3 t5 t6 t15 t16 t17 t24 t25 t26 : AV) (H : AHeap) : R :=
  pAdd t26 (.int .i64 (.ofNat 1)) H fun t49 H =>
  q1 t2 t3 t5 t6 t15 t16 t17 t24 t25 t49 H
noncomputable def S81_4 (call : CallFn) (q1 : AV → AV → AV → AV → AV → AV → AV → AV → AV → AV → AHeap → R) (t2 t3 t5 t6 t9 t15 t16 t17 t24 t25 t26 t37 t44 : AV) (H : AHeap) : R :=
  pPick t37 t44 (.bool false) H fun t45 H =>
  onBool t45 (pIa 1 t5 t9 H fun t48 H =>
  stK 1 H t48 (.bool true) fun _ H =>
  S81_3 call q1 t2 t3 t5 t6 t15 t16 t17 t24 t25 t26 H) (S81_3 call q1 t2 t3 t5 t6 t15 t16 t17 t24 t25 t26 H)
noncomputable def S81_5 (call : CallFn) (q1 : AV → AV → AV → AV → AV → AV → AV → AV → AV → AV → AHeap → R) (t2 t3 t5 t6 t9 t15 t16 t17 t24 t25 t26 t32 t35 : AV) (H : AHeap) : R :=
  pPick t32 t35 (.bool false) H fun t36 H =>
  guardA t36 true (pFa 5 t3 H fun t38 H =>
  ldK .none H t38 fun t39 H =>
  pIa 5 t39 t9 H fun t41 H =>
  pFa 0 t41 H fun t42 H =>
  ldK .none H t42 fun t43 H =>
  pNeq t43 (.int .i64 (.ofNat 43)) H fun t44 H =>
  S81_4 call q1 t2 t3 t5 t6 t9 t15 t16 t17 t24 t25 t26 t36 t44 H) (S81_4 call q1 t2 t3 t5 t6 t9 t15 t16 t17 t24 t25 t26 t36 U H)
noncomputable def S81_2 (call : CallFn) (q0 : AV → AV → AV → AV → AV → AV → AHeap → R) (n : Nat) : AV → AV → AV → AV → AV → AV → AV → AV → AV → AV → AHeap → R :=
  Nat.rec (motive := fun _ => AV → AV → AV → AV → AV → AV → AV → AV → AV → AV → AHeap → R) (fun _ _ _ _ _ _ _ _ _ _ _ => none) (fun _ q1 t2 t3 t5 t6 t15 t16 t17 t24 t25 t26 H => pLss t26 t25 H fun t27 H =>
  onBool t27 (pIa 1 t24 t26 H fun t28 H =>
  ldK .none H t28 fun t29 H =>
  pGeq t29 (.int .i64 (.ofNat 0)) H fun t31 H =>
  guardA t31 true (pLeq t29 t6 H fun t35 H =>
  S81_5 call q1 t2 t3 t5 t6 t29 t15 t16 t17 t24 t25 t26 t31 t35 H) (S81_5 call q1 t2 t3 t5 t6 t29 t15 t16 t17 t24 t25 t26 t31 U H)) (S81_1 call q0 t2 t3 t5 t15 t16 t17 H)) n
noncomputable def S81_0 (call : CallFn) (n : Nat) : AV → AV → AV → AV → AV → AV → AHeap → R :=
  Nat.rec (motive := fun _ => AV → AV → AV → AV → AV → AV → AHeap → R) (fun _ _ _ _ _ _ _ => none) (fun _ q0 t2 t3 t5 t15 t16 t17 H => pLss t17 t16 H fun t18 H =>
  onBool t18 (pIa 5 t15 t17 H fun t20 H =>
  ldK (.some 5) H t20 fun t21 H =>
  pNew [(.int .i64 (.ofNat 0)), (.int .i64 (.ofNat 0)), (.int .i64 (.ofNat 0)), (.int .i64 (.ofNat 0)), (.int .i64 (.ofNat 0))] H fun t7 H =>
  stK 5 H t7 t21 fun _ H =>
  ldK (.some 6) H t2 fun t22 H =>
  ldK (.some 5) H t7 fun t23 H =>
  pC call 136 [t22, t23] H fun t24 H =>
  pO (aLen .sl H t24) H fun t25 H =>
  S81_2 call q0 1000000 t2 t3 t5 t17 t15 t16 t17 t24 t25 (.int .i64 (.ofNat 0)) H) (some (t5, H))) n
noncomputable def S81_6 (call : CallFn) (t0 t1 : AV) (H : AHeap) : R :=
  pBox t0 H fun t2 H =>
  pBox t1 H fun t3 H =>
  pFa 5 t3 H fun t10 H =>
  ldK .none H t10 fun t11 H =>
  pO (aLen .sl H t11) H fun t12 H =>
  pN (aMksl 1 1 [(.bool false)] t12 t12) H fun t13 H =>
  pFa 5 t3 H fun t14 H =>
  ldK .none H t14 fun t15 H =>
  pO (aLen .sl H t15) H fun t16 H =>
  S81_0 call 1000000 t2 t3 t13 t15 t16 (.int .i64 (.ofNat 0)) H
noncomputable def S81 : Ff := ⟨fun call l H => argA2 (fun t0 t1 => S81_6 call t0 t1 H) l⟩
/- gantline/emit.cases -/
noncomputable def S83_0 (_ : CallFn) (t3 t27 t36 : AV) (H : AHeap) : R :=
  pPick t27 (.bool true) t36 H fun t37 H =>
  onBool t37 (some (.tup [(.int .i64 (.ofNat 0)), (.int .i64 (.ofNat 0))], H)) (pFa 1 t3 H fun t38 H =>
  ldK .none H t38 fun t39 H =>
  pFa 1 t3 H fun t40 H =>
  ldK .none H t40 fun t41 H =>
  pFa 2 t3 H fun t42 H =>
  ldK .none H t42 fun t43 H =>
  pAdd t41 t43 H fun t44 H =>
  some (.tup [t39, t44], H))
noncomputable def S83_1 (call : CallFn) (t2 t3 t19 t25 : AV) (H : AHeap) : R :=
  pPick t19 (.bool true) t25 H fun t26 H =>
  guardA t26 false (pFa 2 t3 H fun t28 H =>
  ldK .none H t28 fun t29 H =>
  pFa 3 t2 H fun t30 H =>
  ldK .none H t30 fun t31 H =>
  pO (aLen .sl H t31) H fun t32 H =>
  pFa 1 t3 H fun t33 H =>
  ldK .none H t33 fun t34 H =>
  pSub t32 t34 H fun t35 H =>
  pGtr t29 t35 H fun t36 H =>
  S83_0 call t3 t26 t36 H) (S83_0 call t3 t26 U H)
noncomputable def S83_2 (call : CallFn) (t2 t3 t14 t17 : AV) (H : AHeap) : R :=
  pPick t14 (.bool true) t17 H fun t18 H =>
  guardA t18 false (pFa 1 t3 H fun t20 H =>
  ldK .none H t20 fun t21 H =>
  pFa 3 t2 H fun t22 H =>
  ldK .none H t22 fun t23 H =>
  pO (aLen .sl H t23) H fun t24 H =>
  pGtr t21 t24 H fun t25 H =>
  S83_1 call t2 t3 t18 t25 H) (S83_1 call t2 t3 t18 U H)
noncomputable def S83_3 (call : CallFn) (t2 t3 t9 t12 : AV) (H : AHeap) : R :=
  pPick t9 (.bool true) t12 H fun t13 H =>
  guardA t13 false (pFa 2 t3 H fun t15 H =>
  ldK .none H t15 fun t16 H =>
  pLss t16 (.int .i64 (.ofNat 0)) H fun t17 H =>
  S83_2 call t2 t3 t13 t17 H) (S83_2 call t2 t3 t13 U H)
noncomputable def S83_4 (call : CallFn) (t0 t1 : AV) (H : AHeap) : R :=
  pBox t0 H fun t2 H =>
  pBox t1 H fun t3 H =>
  pFa 0 t3 H fun t6 H =>
  ldK .none H t6 fun t7 H =>
  pNeq t7 (.int .i64 (.ofNat 41)) H fun t8 H =>
  guardA t8 false (pFa 1 t3 H fun t10 H =>
  ldK .none H t10 fun t11 H =>
  pLss t11 (.int .i64 (.ofNat 0)) H fun t12 H =>
  S83_3 call t2 t3 t8 t12 H) (S83_3 call t2 t3 t8 U H)
noncomputable def S83 : Ff := ⟨fun call l H => argA2 (fun t0 t1 => S83_4 call t0 t1 H) l⟩
/- slices.IndexFunc[[]gantline/code.Func,gantline/code.Func] -/
noncomputable def S84_0 (call : CallFn) (n : Nat) : AV → AV → AV → AV → AHeap → R :=
  Nat.rec (motive := fun _ => AV → AV → AV → AV → AHeap → R) (fun _ _ _ _ _ => none) (fun _ q0 t0 t1 t7 t8 H => pLss t8 t7 H fun t9 H =>
  onBool t9 (pIa 7 t0 t8 H fun t14 H =>
  ldK (.some 7) H t14 fun t15 H =>
  pV call t1 [t15] H fun t16 H =>
  onBool t16 (some (t8, H)) (pAdd t8 (.int .i64 (.ofNat 1)) H fun t18 H =>
  q0 t0 t1 t7 t18 H)) (some ((.int .i64 (.negSucc 0)), H))) n
noncomputable def S84_1 (call : CallFn) (t0 t1 : AV) (H : AHeap) : R :=
  pO (aLen .sl H t0) H fun t7 H =>
  S84_0 call 1000000 t0 t1 t7 (.int .i64 (.ofNat 0)) H
noncomputable def S84 : Ff := ⟨fun call l H => argA2 (fun t0 t1 => S84_1 call t0 t1 H) l⟩
/- gantline/live.Maps -/
noncomputable def S85_0 (_ : CallFn) (n : Nat) : AV → AV → AV → AV → AHeap → R :=
  Nat.rec (motive := fun _ => AV → AV → AV → AV → AHeap → R) (fun _ _ _ _ _ => none) (fun _ q0 t5 t8 t34 t35 H => pLss t35 t34 H fun t36 H =>
  onBool t36 (pIa 1 t8 t35 H fun t40 H =>
  ldK .none H t40 fun t41 H =>
  pAnd t41 t5 H fun t43 H =>
  pIa 1 t8 t35 H fun t44 H =>
  stK 1 H t44 t43 fun _ H =>
  pAdd t35 (.int .i64 (.ofNat 1)) H fun t45 H =>
  q0 t5 t8 t34 t45 H) (some (t8, H))) n
noncomputable def S85_1 (call : CallFn) (t2 t3 t5 : AV) (H : AHeap) : R :=
  ldK (.some 6) H t2 fun t30 H =>
  ldK (.some 7) H t3 fun t31 H =>
  pC call 137 [t30, t31] H fun t32 H =>
  pO (aLen .sl H t32) H fun t34 H =>
  S85_0 call 1000000 t5 t32 t34 (.int .i64 (.ofNat 0)) H
noncomputable def S85_3 (_ : CallFn) (q1 : AV → AV → AV → AV → AV → AV → AHeap → R) (t2 t3 t5 t16 t17 t18 : AV) (H : AHeap) : R :=
  pAdd t18 (.int .i64 (.ofNat 1)) H fun t29 H =>
  q1 t2 t3 t5 t16 t17 t29 H
noncomputable def S85_2 (call : CallFn) (n : Nat) : AV → AV → AV → AV → AV → AV → AHeap → R :=
  Nat.rec (motive := fun _ => AV → AV → AV → AV → AV → AV → AHeap → R) (fun _ _ _ _ _ _ _ => none) (fun _ q1 t2 t3 t5 t16 t17 t18 H => pLss t18 t17 H fun t19 H =>
  onBool t19 (pIa 1 t16 t18 H fun t21 H =>
  ldK .none H t21 fun t22 H =>
  onBool t22 (pConv .u64 t18 H fun t26 H =>
  pO (aBin .shl (.int .u64 (.ofNat 1)) t26) H fun t27 H =>
  pOr t5 t27 H fun t28 H =>
  S85_3 call q1 t2 t3 t28 t16 t17 t18 H) (S85_3 call q1 t2 t3 t5 t16 t17 t18 H)) (S85_1 call t2 t3 t5 H)) n
noncomputable def S85_4 (call : CallFn) (t0 t1 : AV) (H : AHeap) : R :=
  pBox t0 H fun t2 H =>
  pBox t1 H fun t3 H =>
  pFa 4 t3 H fun t10 H =>
  ldK .none H t10 fun t11 H =>
  pFa 4 t3 H fun t12 H =>
  ldK .none H t12 fun t13 H =>
  pO (aLen .sl H t13) H fun t14 H =>
  pO (aMinMax false t14 (.int .i64 (.ofNat 64))) H fun t15 H =>
  pO (aSlice 1 H t11 .none (.some t15) .none) H fun t16 H =>
  pO (aLen .sl H t16) H fun t17 H =>
  S85_2 call 1000000 t2 t3 (.int .u64 (.ofNat 0)) t16 t17 (.int .i64 (.ofNat 0)) H
noncomputable def S85 : Ff := ⟨fun call l H => argA2 (fun t0 t1 => S85_4 call t0 t1 H) l⟩
/- gantline/fresh.Sets -/
noncomputable def S86_1 (call : CallFn) (q0 : AV → AV → AV → AV → AV → AHeap → R) (t5 t16 t18 t94 t95 t96 : AV) (H : AHeap) : R :=
  pC call 138 [t18] H fun t105 H =>
  pN (aBsl 1 1 [.nilsl] [(0, 1, t105)]) H fun t106 H =>
  pW (aApp 1 24 H t16 t106) fun t107 H =>
  pAdd t96 (.int .i64 (.ofNat 1)) H fun t108 H =>
  q0 t5 t107 t94 t95 t108 H
noncomputable def S86_0 (call : CallFn) (n : Nat) : AV → AV → AV → AV → AV → AHeap → R :=
  Nat.rec (motive := fun _ => AV → AV → AV → AV → AV → AHeap → R) (fun _ _ _ _ _ _ => none) (fun _ q0 t5 t16 t94 t95 t96 H => pLss t96 t95 H fun t97 H =>
  onBool t97 (pIa 1 t94 t96 H fun t98 H =>
  ldK .none H t98 fun t99 H =>
  pO (aEq false .sl t99 .nilsl) H fun t101 H =>
  onBool t101 (S86_1 call q0 t5 t16 t5 t94 t95 t96 H) (S86_1 call q0 t5 t16 t99 t94 t95 t96 H)) (some (t16, H))) n
noncomputable def S86_2 (call : CallFn) (t5 t6 : AV) (H : AHeap) : R :=
  pO (aLen .sl H t6) H fun t95 H =>
  S86_0 call 1000000 t5 .nilsl t6 t95 (.int .i64 (.ofNat 0)) H
noncomputable def S86_5 (_ : CallFn) (q2 : AV → AV → AV → AV → AV → AV → AV → AV → AHeap → R) (t2 t3 t5 t6 t7 t36 t37 t38 : AV) (H : AHeap) : R :=
  pAdd t38 (.int .i64 (.ofNat 1)) H fun t93 H =>
  q2 t2 t3 t5 t6 t7 t36 t37 t93 H
noncomputable def S86_7 (_ : CallFn) (q3 : AV → AV → AV → AV → AV → AV → AV → AV → AV → AV → AV → AV → AHeap → R) (t2 t3 t5 t6 t7 t11 t36 t37 t38 t65 t66 t67 : AV) (H : AHeap) : R :=
  pAdd t67 (.int .i64 (.ofNat 1)) H fun t92 H =>
  q3 t2 t3 t5 t6 t7 t11 t36 t37 t38 t65 t66 t92 H
noncomputable def S86_6 (call : CallFn) (q2 : AV → AV → AV → AV → AV → AV → AV → AV → AHeap → R) (n : Nat) : AV → AV → AV → AV → AV → AV → AV → AV → AV → AV → AV → AV → AHeap → R :=
  Nat.rec (motive := fun _ => AV → AV → AV → AV → AV → AV → AV → AV → AV → AV → AV → AV → AHeap → R) (fun _ _ _ _ _ _ _ _ _ _ _ _ _ => none) (fun _ q3 t2 t3 t5 t6 t7 t11 t36 t37 t38 t65 t66 t67 H => pLss t67 t66 H fun t68 H =>
  onBool t68 (pIa 1 t65 t67 H fun t69 H =>
  ldK .none H t69 fun t70 H =>
  pIa 1 t6 t70 H fun t73 H =>
  ldK .none H t73 fun t74 H =>
  pO (aEq false .sl t74 .nilsl) H fun t76 H =>
  onBool t76 (pIa 1 t6 t70 H fun t80 H =>
  stK 1 H t80 t11 fun _ H =>
  S86_7 call q3 t2 t3 t5 t6 (.bool true) t11 t36 t37 t38 t65 t66 t67 H) (pC call 143 [t74, t11] H fun t83 H =>
  pC call 144 [t83, t74] H fun t86 H =>
  pO (aUn .not t86) H fun t87 H =>
  onBool t87 (pIa 1 t6 t70 H fun t91 H =>
  stK 1 H t91 t83 fun _ H =>
  S86_7 call q3 t2 t3 t5 t6 (.bool true) t11 t36 t37 t38 t65 t66 t67 H) (S86_7 call q3 t2 t3 t5 t6 t7 t11 t36 t37 t38 t65 t66 t67 H))) (S86_5 call q2 t2 t3 t5 t6 t7 t36 t37 t38 H)) n
noncomputable def S86_4 (call : CallFn) (q1 : AV → AV → AV → AV → AV → AHeap → R) (n : Nat) : AV → AV → AV → AV → AV → AV → AV → AV → AHeap → R :=
  Nat.rec (motive := fun _ => AV → AV → AV → AV → AV → AV → AV → AV → AHeap → R) (fun _ _ _ _ _ _ _ _ _ => none) (fun _ q2 t2 t3 t5 t6 t7 t36 t37 t38 H => pLss t38 t37 H fun t39 H =>
  onBool t39 (pIa 5 t36 t38 H fun t41 H =>
  ldK (.some 5) H t41 fun t42 H =>
  pNew [(.int .i64 (.ofNat 0)), (.int .i64 (.ofNat 0)), (.int .i64 (.ofNat 0)), (.int .i64 (.ofNat 0)), (.int .i64 (.ofNat 0))] H fun t9 H =>
  stK 5 H t9 t42 fun _ H =>
  pIa 1 t6 t38 H fun t45 H =>
  ldK .none H t45 fun t46 H =>
  pO (aEq false .sl t46 .nilsl) H fun t47 H =>
  onBool t47 (S86_5 call q2 t2 t3 t5 t6 t7 t36 t37 t38 H) (pIa 1 t6 t38 H fun t50 H =>
  ldK .none H t50 fun t51 H =>
  pC call 138 [t51] H fun t52 H =>
  ldK (.some 6) H t2 fun t54 H =>
  ldK (.some 5) H t9 fun t55 H =>
  pC call 140 [t54, t55] H fun t56 H =>
  pC call 139 [t52, t56] H fun _ H =>
  ldK (.some 6) H t2 fun t58 H =>
  ldK (.some 5) H t9 fun t59 H =>
  pC call 141 [t58, t59, t52] H fun t61 H =>
  ldK (.some 6) H t2 fun t62 H =>
  ldK (.some 7) H t3 fun t63 H =>
  pC call 142 [t62, t63, t38] H fun t65 H =>
  pO (aLen .sl H t65) H fun t66 H =>
  S86_6 call q2 1000000 t2 t3 t5 t6 t7 t61 t36 t37 t38 t65 t66 (.int .i64 (.ofNat 0)) H)) (q1 t2 t3 t5 t6 t7 H)) n
noncomputable def S86_3 (call : CallFn) (n : Nat) : AV → AV → AV → AV → AV → AHeap → R :=
  Nat.rec (motive := fun _ => AV → AV → AV → AV → AV → AHeap → R) (fun _ _ _ _ _ _ => none) (fun _ q1 t2 t3 t5 t6 t7 H => onBool t7 (pFa 5 t3 H fun t35 H =>
  ldK .none H t35 fun t36 H =>
  pO (aLen .sl H t36) H fun t37 H =>
  S86_4 call q1 1000000 t2 t3 t5 t6 (.bool false) t36 t37 (.int .i64 (.ofNat 0)) H) (S86_2 call t5 t6 H)) n
noncomputable def S86_8 (call : CallFn) (t0 t1 : AV) (H : AHeap) : R :=
  pBox t0 H fun t2 H =>
  pBox t1 H fun t3 H =>
  pFa 2 t3 H fun t19 H =>
  ldK .none H t19 fun t20 H =>
  pO (aMinMax true t20 (.int .i64 (.ofNat 0))) H fun t21 H =>
  pO (aMinMax false t21 (.int .i64 (.ofNat 64))) H fun t22 H =>
  pN (aMksl 3 16 [(.bool false), (.bool false), (.int .u64 (.ofNat 0))] t22 t22) H fun t23 H =>
  pFa 5 t3 H fun t24 H =>
  ldK .none H t24 fun t25 H =>
  pO (aLen .sl H t25) H fun t26 H =>
  pN (aMksl 1 24 [.nilsl] t26 t26) H fun t27 H =>
  pO (aLen .sl H t27) H fun t29 H =>
  pGtr t29 (.int .i64 (.ofNat 0)) H fun t30 H =>
  onBool t30 (pIa 1 t27 (.int .i64 (.ofNat 0)) H fun t33 H =>
  stK 1 H t33 t23 fun _ H =>
  S86_3 call 1000000 t2 t3 t23 t27 (.bool true) H) (S86_3 call 1000000 t2 t3 t23 t27 (.bool true) H)
noncomputable def S86 : Ff := ⟨fun call l H => argA2 (fun t0 t1 => S86_8 call t0 t1 H) l⟩
/- gantline/cycle.New -/
noncomputable def S88_0 (call : CallFn) (t0 : AV) (H : AHeap) : R :=
  pC call 147 [t0] H fun t9 H =>
  pExt t9 0 H fun t10 H =>
  pExt t9 1 H fun t11 H =>
  pNeq t11 (.int .i64 (.ofNat 0)) H fun t13 H =>
  onBool t13 (some (.tup [.nilp, t11], H)) (pC call 148 [] H fun t15 H =>
  pC call 149 [t10] H fun t19 H =>
  pC call 150 [t10, t15] H fun t22 H =>
  pMap H fun t23 H =>
  pO (someAgg (aFill [.nilp, .nilp, .nilp, .nilp, (.int .i64 (.ofNat 0)), .nilmap, (.int .i64 (.ofNat 0)), (.int .i64 (.ofNat 0))] [(0, 1, t10), (1, 1, t15), (2, 1, t19), (3, 1, t22), (5, 1, t23), (7, 1, (.int .i64 (.ofNat 64)))])) H fun t24 H =>
  pBox t24 H fun t25 H =>
  some (.tup [t25, (.int .i64 (.ofNat 0))], H))
noncomputable def S88 : Ff := ⟨fun call l H => argA1 (fun t0 => S88_0 call t0 H) l⟩
/- slices.Clone[[]gantline/head.Shape,gantline/head.Shape] -/
noncomputable def S91_0 (_ : CallFn) (t0 : AV) (H : AHeap) : R :=
  pO (aEq false .sl t0 .nilsl) H fun t4 H =>
  onBool t4 (some (.nilsl, H)) (pN (aBsl 3 0 [(.int .i64 (.ofNat 0)), (.int .i64 (.ofNat 0)), (.int .u64 (.ofNat 0))] []) H fun t5 H =>
  pW (aApp 3 24 H t5 t0) fun t7 H =>
  some (t7, H))
noncomputable def S91 : Ff := ⟨fun call l H => argA1 (fun t0 => S91_0 call t0 H) l⟩
/- slices.Clone[[]bool,bool] -/
noncomputable def S92_0 (_ : CallFn) (t0 : AV) (H : AHeap) : R :=
  pO (aEq false .sl t0 .nilsl) H fun t4 H =>
  onBool t4 (some (.nilsl, H)) (pN (aBsl 1 0 [(.bool false)] []) H fun t5 H =>
  pW (aApp 1 1 H t5 t0) fun t7 H =>
  some (t7, H))
noncomputable def S92 : Ff := ⟨fun call l H => argA1 (fun t0 => S92_0 call t0 H) l⟩
/- slices.Clone[[]int64,int64] -/
noncomputable def S93_0 (_ : CallFn) (t0 : AV) (H : AHeap) : R :=
  pO (aEq false .sl t0 .nilsl) H fun t4 H =>
  onBool t4 (some (.nilsl, H)) (pN (aBsl 1 0 [(.int .i64 (.ofNat 0))] []) H fun t5 H =>
  pW (aApp 1 8 H t5 t0) fun t7 H =>
  some (t7, H))
noncomputable def S93 : Ff := ⟨fun call l H => argA1 (fun t0 => S93_0 call t0 H) l⟩
/- slices.Clone[[]gantline/code.Case,gantline/code.Case] -/
noncomputable def S94_0 (_ : CallFn) (t0 : AV) (H : AHeap) : R :=
  pO (aEq false .sl t0 .nilsl) H fun t4 H =>
  onBool t4 (some (.nilsl, H)) (pN (aBsl 4 0 [(.int .i64 (.ofNat 0)), (.int .i64 (.ofNat 0)), (.int .i64 (.ofNat 0)), (.int .i64 (.ofNat 0))] []) H fun t5 H =>
  pW (aApp 4 32 H t5 t0) fun t7 H =>
  some (t7, H))
noncomputable def S94 : Ff := ⟨fun call l H => argA1 (fun t0 => S94_0 call t0 H) l⟩
/- slices.Clone[[]gantline/code.Func,gantline/code.Func] -/
noncomputable def S95_0 (_ : CallFn) (t0 : AV) (H : AHeap) : R :=
  pO (aEq false .sl t0 .nilsl) H fun t4 H =>
  onBool t4 (some (.nilsl, H)) (pN (aBsl 7 0 [(.int .i64 (.ofNat 0)), (.int .i64 (.ofNat 0)), (.int .i64 (.ofNat 0)), (.int .i64 (.ofNat 0)), .nilsl, .nilsl, .nilsl] []) H fun t5 H =>
  pW (aApp 7 104 H t5 t0) fun t7 H =>
  some (t7, H))
noncomputable def S95 : Ff := ⟨fun call l H => argA1 (fun t0 => S95_0 call t0 H) l⟩
/- slices.Clone[[]gantline/code.Instr,gantline/code.Instr] -/
noncomputable def S96_0 (_ : CallFn) (t0 : AV) (H : AHeap) : R :=
  pO (aEq false .sl t0 .nilsl) H fun t4 H =>
  onBool t4 (some (.nilsl, H)) (pN (aBsl 5 0 [(.int .i64 (.ofNat 0)), (.int .i64 (.ofNat 0)), (.int .i64 (.ofNat 0)), (.int .i64 (.ofNat 0)), (.int .i64 (.ofNat 0))] []) H fun t5 H =>
  pW (aApp 5 40 H t5 t0) fun t7 H =>
  some (t7, H))
noncomputable def S96 : Ff := ⟨fun call l H => argA1 (fun t0 => S96_0 call t0 H) l⟩
/- slices.Clone[[]uint64,uint64] -/
noncomputable def S97_0 (_ : CallFn) (t0 : AV) (H : AHeap) : R :=
  pO (aEq false .sl t0 .nilsl) H fun t4 H =>
  onBool t4 (some (.nilsl, H)) (pN (aBsl 1 0 [(.int .u64 (.ofNat 0))] []) H fun t5 H =>
  pW (aApp 1 8 H t5 t0) fun t7 H =>
  some (t7, H))
noncomputable def S97 : Ff := ⟨fun call l H => argA1 (fun t0 => S97_0 call t0 H) l⟩
/- gantline/frame.New -/
noncomputable def S98_0 (call : CallFn) (t0 t1 t2 : AV) (H : AHeap) : R :=
  pBox t0 H fun t3 H =>
  ldK (.some 6) H t3 fun t11 H =>
  pC call 152 [t11, t1, t2] H fun t14 H =>
  pExt t14 0 H fun t15 H =>
  pExt t14 1 H fun t16 H =>
  pNew [(.int .i64 (.ofNat 0)), (.int .i64 (.ofNat 0)), .nilsl] H fun t8 H =>
  stK 3 H t8 t15 fun _ H =>
  pNeq t16 (.int .i64 (.ofNat 0)) H fun t18 H =>
  onBool t18 (some (.tup [.nilp, t16], H)) (ldK (.some 3) H t8 fun t20 H =>
  pN (aBsl 3 1 [(.int .i64 (.ofNat 0)), (.int .i64 (.ofNat 0)), .nilsl] [(0, 3, t20)]) H fun t21 H =>
  pO (someAgg (aFill [.nilsl] [(0, 1, t21)])) H fun t22 H =>
  pBox t22 H fun t23 H =>
  some (.tup [t23, (.int .i64 (.ofNat 0))], H))
noncomputable def S98 : Ff := ⟨fun call l H => argA3 (fun t0 t1 t2 => S98_0 call t0 t1 t2 H) l⟩
/- (*gantline/sched.Table).Enabled -/
noncomputable def S99_0 (call : CallFn) (t0 t1 : AV) (H : AHeap) : R :=
  pBox t0 H fun t2 H =>
  pBox t1 H fun t3 H =>
  ldK .none H t2 fun t5 H =>
  pC call 154 [t5] H fun t6 H =>
  pC call 153 [t6, (.fn 155 [] [t2, t3])] H fun t8 H =>
  some (t8, H)
noncomputable def S99 : Ff := ⟨fun call l H => argA2 (fun t0 t1 => S99_0 call t0 t1 H) l⟩
/- (*gantline/vm.Machine).WaysOf -/
noncomputable def S102_0 (call : CallFn) (t0 t1 : AV) (H : AHeap) : R :=
  pO (aNil t0) H fun t6 H =>
  pFa 11 t6 H fun t7 H =>
  ldK .none H t7 fun t8 H =>
  pNeq t8 (.int .i64 (.ofNat 0)) H fun t9 H =>
  onBool t9 (some (.nilsl, H)) (pO (aNil t0) H fun t11 H =>
  pFa 7 t11 H fun t12 H =>
  ldK .none H t12 fun t13 H =>
  pO (aNil t0) H fun t15 H =>
  pFa 6 t15 H fun t16 H =>
  ldK .none H t16 fun t17 H =>
  pC call 156 [t13, t17, t1] H fun t19 H =>
  some (t19, H))
noncomputable def S102 : Ff := ⟨fun call l H => argA2 (fun t0 t1 => S102_0 call t0 t1 H) l⟩
/- (*gantline/sched.Table).Stack -/
noncomputable def S103_0 (_ : CallFn) (t0 t1 : AV) (H : AHeap) : R :=
  pO (aNil t0) H fun t6 H =>
  pFa 6 t6 H fun t7 H =>
  ldK .none H t7 fun t8 H =>
  pO (aLook .int .nilp false H t8 t1) H fun t10 H =>
  some (t10, H)
noncomputable def S103 : Ff := ⟨fun call l H => argA2 (fun t0 t1 => S103_0 call t0 t1 H) l⟩
/- (*gantline/frame.Stack).At -/
noncomputable def S104_0 (_ : CallFn) (t3 t4 t6 t35 t50 : AV) (H : AHeap) : R :=
  pPick t35 (.bool true) t50 H fun t51 H =>
  onBool t51 (pO (someAgg (aFill [(.int .i64 (.ofNat 0)), (.int .i64 (.ofNat 0)), (.int .i64 (.ofNat 0)), (.int .i64 (.ofNat 0)), (.int .i64 (.ofNat 0))] [])) H fun t52 H =>
  stK 5 H t4 t52 fun _ H =>
  ob (allM (fun o => o) [aLoad (.some 5) H t4, some (.bool false)]) fun vs => some (resV vs, H)) (pFa 4 t3 H fun t53 H =>
  ldK .none H t53 fun t54 H =>
  pO (aNil t6) H fun t56 H =>
  pFa 0 t56 H fun t57 H =>
  ldK .none H t57 fun t58 H =>
  pIa 7 t54 t58 H fun t59 H =>
  pFa 5 t59 H fun t60 H =>
  ldK .none H t60 fun t61 H =>
  pO (aNil t6) H fun t63 H =>
  pFa 1 t63 H fun t64 H =>
  ldK .none H t64 fun t65 H =>
  pIa 5 t61 t65 H fun t66 H =>
  ldK (.some 5) H t66 fun t67 H =>
  stK 5 H t4 t67 fun _ H =>
  ob (allM (fun o => o) [aLoad (.some 5) H t4, some (.bool true)]) fun vs => some (resV vs, H))
noncomputable def S104_1 (call : CallFn) (t3 t4 t6 t35 t39 t49 : AV) (H : AHeap) : R :=
  guardA t35 false (pGeq t39 t49 H fun t50 H =>
  S104_0 call t3 t4 t6 t35 t50 H) (S104_0 call t3 t4 t6 t35 U H)
noncomputable def S104_2 (call : CallFn) (t3 t4 t6 t35 t39 t48 : AV) (H : AHeap) : R :=
  guardA t35 false (pO (aLen .sl H t48) H fun t49 H =>
  S104_1 call t3 t4 t6 t35 t39 t49 H) (S104_1 call t3 t4 t6 t35 t39 U H)
noncomputable def S104_3 (call : CallFn) (t3 t4 t6 t35 t39 t47 : AV) (H : AHeap) : R :=
  guardA t35 false (ldK .none H t47 fun t48 H =>
  S104_2 call t3 t4 t6 t35 t39 t48 H) (S104_2 call t3 t4 t6 t35 t39 U H)
noncomputable def S104_4 (call : CallFn) (t3 t4 t6 t35 t39 t46 : AV) (H : AHeap) : R :=
  guardA t35 false (pFa 5 t46 H fun t47 H =>
  S104_3 call t3 t4 t6 t35 t39 t47 H) (S104_3 call t3 t4 t6 t35 t39 U H)
noncomputable def S104_5 (call : CallFn) (t3 t4 t6 t35 t39 t41 t45 : AV) (H : AHeap) : R :=
  guardA t35 false (pIa 7 t41 t45 H fun t46 H =>
  S104_4 call t3 t4 t6 t35 t39 t46 H) (S104_4 call t3 t4 t6 t35 t39 U H)
noncomputable def S104_6 (call : CallFn) (t3 t4 t6 t35 t39 t41 t44 : AV) (H : AHeap) : R :=
  guardA t35 false (ldK .none H t44 fun t45 H =>
  S104_5 call t3 t4 t6 t35 t39 t41 t45 H) (S104_5 call t3 t4 t6 t35 t39 t41 U H)
noncomputable def S104_7 (call : CallFn) (t3 t4 t6 t35 t39 t41 t43 : AV) (H : AHeap) : R :=
  guardA t35 false (pFa 0 t43 H fun t44 H =>
  S104_6 call t3 t4 t6 t35 t39 t41 t44 H) (S104_6 call t3 t4 t6 t35 t39 t41 U H)
noncomputable def S104_8 (call : CallFn) (t3 t4 t6 t35 t39 t41 t42 : AV) (H : AHeap) : R :=
  guardA t35 false (pO (aNil t42) H fun t43 H =>
  S104_7 call t3 t4 t6 t35 t39 t41 t43 H) (S104_7 call t3 t4 t6 t35 t39 t41 U H)
noncomputable def S104_9 (call : CallFn) (t3 t4 t6 t35 t39 t41 : AV) (H : AHeap) : R :=
  guardA t35 false (S104_8 call t3 t4 t6 t35 t39 t41 t6 H) (S104_8 call t3 t4 t6 t35 t39 t41 U H)
noncomputable def S104_10 (call : CallFn) (t3 t4 t6 t35 t39 t40 : AV) (H : AHeap) : R :=
  guardA t35 false (ldK .none H t40 fun t41 H =>
  S104_9 call t3 t4 t6 t35 t39 t41 H) (S104_9 call t3 t4 t6 t35 t39 U H)
noncomputable def S104_11 (call : CallFn) (t3 t4 t6 t35 t39 : AV) (H : AHeap) : R :=
  guardA t35 false (pFa 4 t3 H fun t40 H =>
  S104_10 call t3 t4 t6 t35 t39 t40 H) (S104_10 call t3 t4 t6 t35 t39 U H)
noncomputable def S104_12 (call : CallFn) (t3 t4 t6 t35 t38 : AV) (H : AHeap) : R :=
  guardA t35 false (ldK .none H t38 fun t39 H =>
  S104_11 call t3 t4 t6 t35 t39 H) (S104_11 call t3 t4 t6 t35 U H)
noncomputable def S104_13 (call : CallFn) (t3 t4 t6 t35 t37 : AV) (H : AHeap) : R :=
  guardA t35 false (pFa 1 t37 H fun t38 H =>
  S104_12 call t3 t4 t6 t35 t38 H) (S104_12 call t3 t4 t6 t35 U H)
noncomputable def S104_14 (call : CallFn) (t3 t4 t6 t35 t36 : AV) (H : AHeap) : R :=
  guardA t35 false (pO (aNil t36) H fun t37 H =>
  S104_13 call t3 t4 t6 t35 t37 H) (S104_13 call t3 t4 t6 t35 U H)
noncomputable def S104_15 (call : CallFn) (t3 t4 t6 t28 t33 : AV) (H : AHeap) : R :=
  pPick t28 (.bool true) t33 H fun t34 H =>
  guardA t34 false (S104_14 call t3 t4 t6 t34 t6 H) (S104_14 call t3 t4 t6 t34 U H)
noncomputable def S104_16 (call : CallFn) (t3 t4 t6 t28 t32 : AV) (H : AHeap) : R :=
  guardA t28 false (pLss t32 (.int .i64 (.ofNat 0)) H fun t33 H =>
  S104_15 call t3 t4 t6 t28 t33 H) (S104_15 call t3 t4 t6 t28 U H)
noncomputable def S104_17 (call : CallFn) (t3 t4 t6 t28 t31 : AV) (H : AHeap) : R :=
  guardA t28 false (ldK .none H t31 fun t32 H =>
  S104_16 call t3 t4 t6 t28 t32 H) (S104_16 call t3 t4 t6 t28 U H)
noncomputable def S104_18 (call : CallFn) (t3 t4 t6 t28 t30 : AV) (H : AHeap) : R :=
  guardA t28 false (pFa 1 t30 H fun t31 H =>
  S104_17 call t3 t4 t6 t28 t31 H) (S104_17 call t3 t4 t6 t28 U H)
noncomputable def S104_19 (call : CallFn) (t3 t4 t6 t28 t29 : AV) (H : AHeap) : R :=
  guardA t28 false (pO (aNil t29) H fun t30 H =>
  S104_18 call t3 t4 t6 t28 t30 H) (S104_18 call t3 t4 t6 t28 U H)
noncomputable def S104_20 (call : CallFn) (t3 t4 t6 t18 t26 : AV) (H : AHeap) : R :=
  pPick t18 (.bool true) t26 H fun t27 H =>
  guardA t27 false (S104_19 call t3 t4 t6 t27 t6 H) (S104_19 call t3 t4 t6 t27 U H)
noncomputable def S104_21 (call : CallFn) (t3 t4 t6 t18 t22 t25 : AV) (H : AHeap) : R :=
  guardA t18 false (pGeq t22 t25 H fun t26 H =>
  S104_20 call t3 t4 t6 t18 t26 H) (S104_20 call t3 t4 t6 t18 U H)
noncomputable def S104_22 (call : CallFn) (t3 t4 t6 t18 t22 t24 : AV) (H : AHeap) : R :=
  guardA t18 false (pO (aLen .sl H t24) H fun t25 H =>
  S104_21 call t3 t4 t6 t18 t22 t25 H) (S104_21 call t3 t4 t6 t18 t22 U H)
noncomputable def S104_23 (call : CallFn) (t3 t4 t6 t18 t22 t23 : AV) (H : AHeap) : R :=
  guardA t18 false (ldK .none H t23 fun t24 H =>
  S104_22 call t3 t4 t6 t18 t22 t24 H) (S104_22 call t3 t4 t6 t18 t22 U H)
noncomputable def S104_24 (call : CallFn) (t3 t4 t6 t18 t22 : AV) (H : AHeap) : R :=
  guardA t18 false (pFa 4 t3 H fun t23 H =>
  S104_23 call t3 t4 t6 t18 t22 t23 H) (S104_23 call t3 t4 t6 t18 t22 U H)
noncomputable def S104_25 (call : CallFn) (t3 t4 t6 t18 t21 : AV) (H : AHeap) : R :=
  guardA t18 false (ldK .none H t21 fun t22 H =>
  S104_24 call t3 t4 t6 t18 t22 H) (S104_24 call t3 t4 t6 t18 U H)
noncomputable def S104_26 (call : CallFn) (t3 t4 t6 t18 t20 : AV) (H : AHeap) : R :=
  guardA t18 false (pFa 0 t20 H fun t21 H =>
  S104_25 call t3 t4 t6 t18 t21 H) (S104_25 call t3 t4 t6 t18 U H)
noncomputable def S104_27 (call : CallFn) (t3 t4 t6 t18 t19 : AV) (H : AHeap) : R :=
  guardA t18 false (pO (aNil t19) H fun t20 H =>
  S104_26 call t3 t4 t6 t18 t20 H) (S104_26 call t3 t4 t6 t18 U H)
noncomputable def S104_28 (call : CallFn) (t3 t4 t6 t11 t16 : AV) (H : AHeap) : R :=
  pPick t11 (.bool true) t16 H fun t17 H =>
  guardA t17 false (S104_27 call t3 t4 t6 t17 t6 H) (S104_27 call t3 t4 t6 t17 U H)
noncomputable def S104_29 (call : CallFn) (t3 t4 t6 t11 t15 : AV) (H : AHeap) : R :=
  guardA t11 false (pLss t15 (.int .i64 (.ofNat 0)) H fun t16 H =>
  S104_28 call t3 t4 t6 t11 t16 H) (S104_28 call t3 t4 t6 t11 U H)
noncomputable def S104_30 (call : CallFn) (t3 t4 t6 t11 t14 : AV) (H : AHeap) : R :=
  guardA t11 false (ldK .none H t14 fun t15 H =>
  S104_29 call t3 t4 t6 t11 t15 H) (S104_29 call t3 t4 t6 t11 U H)
noncomputable def S104_31 (call : CallFn) (t3 t4 t6 t11 t13 : AV) (H : AHeap) : R :=
  guardA t11 false (pFa 0 t13 H fun t14 H =>
  S104_30 call t3 t4 t6 t11 t14 H) (S104_30 call t3 t4 t6 t11 U H)
noncomputable def S104_32 (call : CallFn) (t3 t4 t6 t11 t12 : AV) (H : AHeap) : R :=
  guardA t11 false (pO (aNil t12) H fun t13 H =>
  S104_31 call t3 t4 t6 t11 t13 H) (S104_31 call t3 t4 t6 t11 U H)
noncomputable def S104_33 (call : CallFn) (t0 t1 : AV) (H : AHeap) : R :=
  pBox t1 H fun t3 H =>
  pNew [(.int .i64 (.ofNat 0)), (.int .i64 (.ofNat 0)), (.int .i64 (.ofNat 0)), (.int .i64 (.ofNat 0)), (.int .i64 (.ofNat 0))] H fun t4 H =>
  pC call 165 [t0] H fun t8 H =>
  pO (aEq false .ptr t8 .nilp) H fun t10 H =>
  guardA t10 false (S104_32 call t3 t4 t8 t10 t8 H) (S104_32 call t3 t4 t8 t10 U H)
noncomputable def S104 : Ff := ⟨fun call l H => argA2 (fun t0 t1 => S104_33 call t0 t1 H) l⟩
/- (*gantline/frame.Stack).Top -/
noncomputable def S105_0 (call : CallFn) (t0 : AV) (H : AHeap) : R :=
  pNew [(.int .i64 (.ofNat 0)), (.int .i64 (.ofNat 0)), .nilsl] H fun t2 H =>
  pC call 165 [t0] H fun t6 H =>
  pO (aEq false .ptr t6 .nilp) H fun t8 H =>
  onBool t8 (pO (someAgg (aFill [(.int .i64 (.ofNat 0)), (.int .i64 (.ofNat 0)), .nilsl] [])) H fun t9 H =>
  stK 3 H t2 t9 fun _ H =>
  ob (allM (fun o => o) [aLoad (.some 3) H t2, some (.bool false)]) fun vs => some (resV vs, H)) (pO (aNil t6) H fun t11 H =>
  ldK (.some 3) H t11 fun t12 H =>
  pC call 166 [t12] H fun t13 H =>
  stK 3 H t2 t13 fun _ H =>
  ob (allM (fun o => o) [aLoad (.some 3) H t2, some (.bool true)]) fun vs => some (resV vs, H))
noncomputable def S105 : Ff := ⟨fun call l H => argA1 (fun t0 => S105_0 call t0 H) l⟩
/- gantline/vm.isAct -/
noncomputable def S106_0 (_ : CallFn) (t15 t21 : AV) (H : AHeap) : R :=
  pPick t15 (.bool true) t21 H fun t22 H =>
  some (t22, H)
noncomputable def S106_1 (call : CallFn) (t15 t18 t20 : AV) (H : AHeap) : R :=
  guardA t15 false (pPick t18 t20 (.bool false) H fun t21 H =>
  S106_0 call t15 t21 H) (S106_0 call t15 U H)
noncomputable def S106_2 (call : CallFn) (t1 t15 t18 : AV) (H : AHeap) : R :=
  guardA t18 true (pEql t1 (.int .i64 (.ofNat 1)) H fun t20 H =>
  S106_1 call t15 t18 t20 H) (S106_1 call t15 t18 U H)
noncomputable def S106_3 (call : CallFn) (t0 t1 t11 t13 : AV) (H : AHeap) : R :=
  pPick t11 t13 (.bool false) H fun t14 H =>
  guardA t14 false (pEql t0 (.int .i64 (.ofNat 22)) H fun t17 H =>
  S106_2 call t1 t14 t17 H) (S106_2 call t1 t14 U H)
noncomputable def S106_4 (call : CallFn) (t0 t1 t7 t9 : AV) (H : AHeap) : R :=
  pPick t7 t9 (.bool false) H fun t10 H =>
  guardA t10 true (pNeq t0 (.int .i64 (.ofNat 36)) H fun t13 H =>
  S106_3 call t0 t1 t10 t13 H) (S106_3 call t0 t1 t10 U H)
noncomputable def S106_5 (call : CallFn) (t0 t1 : AV) (H : AHeap) : R :=
  pGeq t0 (.int .i64 (.ofNat 23)) H fun t6 H =>
  guardA t6 true (pLeq t0 (.int .i64 (.ofNat 42)) H fun t9 H =>
  S106_4 call t0 t1 t6 t9 H) (S106_4 call t0 t1 t6 U H)
noncomputable def S106 : Ff := ⟨fun call l H => argA2 (fun t0 t1 => S106_5 call t0 t1 H) l⟩
/- (*gantline/frame.Stack).Depth -/
noncomputable def S107_0 (_ : CallFn) (t0 : AV) (H : AHeap) : R :=
  pO (aNil t0) H fun t4 H =>
  pFa 0 t4 H fun t5 H =>
  ldK .none H t5 fun t6 H =>
  pO (aLen .sl H t6) H fun t7 H =>
  some (t7, H)
noncomputable def S107 : Ff := ⟨fun call l H => argA1 (fun t0 => S107_0 call t0 H) l⟩
/- (*gantline/vm.doing).do -/
noncomputable def S108_0 (call : CallFn) (t0 : AV) (H : AHeap) : R :=
  pC call 172 [t0] H fun _ H =>
  some (.tup [], H)
noncomputable def S108_1 (call : CallFn) (t0 t2 t35 t37 : AV) (H : AHeap) : R :=
  pPick t35 (.bool true) t37 H fun t38 H =>
  onBool t38 (pC call 169 [t0] H fun _ H =>
  some (.tup [], H)) (pLeq t2 (.int .i64 (.ofNat 35)) H fun t43 H =>
  onBool t43 (pC call 170 [t0] H fun _ H =>
  some (.tup [], H)) (pEql t2 (.int .i64 (.ofNat 42)) H fun t48 H =>
  onBool t48 (pO (aNil t0) H fun t50 H =>
  pFa 0 t50 H fun t51 H =>
  ldK .none H t51 fun t52 H =>
  pO (aNil t52) H fun t53 H =>
  pFa 9 t53 H fun t54 H =>
  ldK .none H t54 fun t55 H =>
  pO (aLen .sl H t55) H fun t56 H =>
  pLss t56 (.int .i64 (.ofNat 65536)) H fun t57 H =>
  onBool t57 (pO (aNil t0) H fun t59 H =>
  pFa 0 t59 H fun t60 H =>
  ldK .none H t60 fun t61 H =>
  pO (aNil t0) H fun t63 H =>
  pFa 0 t63 H fun t64 H =>
  ldK .none H t64 fun t65 H =>
  pO (aNil t65) H fun t66 H =>
  pFa 9 t66 H fun t67 H =>
  ldK .none H t67 fun t68 H =>
  pO (aNil t0) H fun t70 H =>
  pFa 2 t70 H fun t71 H =>
  ldK .none H t71 fun t72 H =>
  pO (aNil t0) H fun t74 H =>
  pFa 3 t74 H fun t75 H =>
  pFa 1 t75 H fun t76 H =>
  ldK .none H t76 fun t77 H =>
  pC call 171 [t72, t77] H fun t78 H =>
  andR (andB (ckV (aLoad .none H t60) t61) (andB (ckV (aLoad .none H t64) t65) (andB (ckV (aLoad .none H t67) t68) true))) (
  pN (aBsl 1 1 [(.int .i64 (.ofNat 0))] [(0, 1, t78)]) H fun t79 H =>
  pW (aApp 1 8 H t68 t79) fun t80 H =>
  andR (andB (ckV (aLoad .none H t60) t61) true) (
  pO (aNil t61) H fun t81 H =>
  pFa 9 t81 H fun t82 H =>
  stK 1 H t82 t80 fun _ H =>
  S108_0 call t0 H))) (S108_0 call t0 H)) (pEql t2 (.int .i64 (.ofNat 44)) H fun t87 H =>
  onBool t87 (pO (aNil t0) H fun t89 H =>
  pFa 0 t89 H fun t90 H =>
  ldK .none H t90 fun t91 H =>
  pO (aNil t0) H fun t93 H =>
  pFa 3 t93 H fun t94 H =>
  pFa 1 t94 H fun t95 H =>
  ldK .none H t95 fun t96 H =>
  pC call 173 [t91, t96] H fun _ H =>
  some (.tup [], H)) (pC call 174 [t0] H fun _ H =>
  some (.tup [], H)))))
noncomputable def S108_2 (call : CallFn) (t0 t2 t31 t33 : AV) (H : AHeap) : R :=
  pPick t31 (.bool true) t33 H fun t34 H =>
  guardA t34 false (pEql t2 (.int .i64 (.ofNat 37)) H fun t37 H =>
  S108_1 call t0 t2 t34 t37 H) (S108_1 call t0 t2 t34 U H)
noncomputable def S108_3 (call : CallFn) (t0 t2 t27 t29 : AV) (H : AHeap) : R :=
  pPick t27 (.bool true) t29 H fun t30 H =>
  guardA t30 false (pEql t2 (.int .i64 (.ofNat 36)) H fun t33 H =>
  S108_2 call t0 t2 t30 t33 H) (S108_2 call t0 t2 t30 U H)
noncomputable def S108_4 (call : CallFn) (t0 t2 t13 t15 : AV) (H : AHeap) : R :=
  pPick t13 (.bool true) t15 H fun t16 H =>
  onBool t16 (pC call 167 [t0] H fun _ H =>
  some (.tup [], H)) (pLeq t2 (.int .i64 (.ofNat 24)) H fun t21 H =>
  onBool t21 (pC call 168 [t0] H fun _ H =>
  some (.tup [], H)) (pEql t2 (.int .i64 (.ofNat 25)) H fun t26 H =>
  guardA t26 false (pEql t2 (.int .i64 (.ofNat 26)) H fun t29 H =>
  S108_3 call t0 t2 t26 t29 H) (S108_3 call t0 t2 t26 U H)))
noncomputable def S108_5 (call : CallFn) (t0 : AV) (H : AHeap) : R :=
  pO (aNil t0) H fun t4 H =>
  pFa 3 t4 H fun t5 H =>
  pFa 0 t5 H fun t6 H =>
  ldK .none H t6 fun t7 H =>
  pLeq t7 (.int .i64 (.ofNat 19)) H fun t12 H =>
  guardA t12 false (pEql t7 (.int .i64 (.ofNat 43)) H fun t15 H =>
  S108_4 call t0 t7 t12 t15 H) (S108_4 call t0 t7 t12 U H)
noncomputable def S108 : Ff := ⟨fun call l H => argA1 (fun t0 => S108_5 call t0 H) l⟩
/- slices.Clone[[]gantline/vm.Act,gantline/vm.Act] -/
noncomputable def S109_0 (_ : CallFn) (t0 : AV) (H : AHeap) : R :=
  pO (aEq false .sl t0 .nilsl) H fun t4 H =>
  onBool t4 (some (.nilsl, H)) (pN (aBsl 7 0 [(.int .i64 (.ofNat 0)), (.int .i64 (.ofNat 0)), (.int .i64 (.ofNat 0)), (.int .i64 (.ofNat 0)), (.int .i64 (.ofNat 0)), (.int .i64 (.ofNat 0)), (.int .i64 (.ofNat 0))] []) H fun t5 H =>
  pW (aApp 7 56 H t5 t0) fun t7 H =>
  some (t7, H))
noncomputable def S109 : Ff := ⟨fun call l H => argA1 (fun t0 => S109_0 call t0 H) l⟩
/- gantline/verify.module -/
noncomputable def S110_0 (_ : CallFn) (t79 t82 : AV) (H : AHeap) : R :=
  pPick t79 (.bool true) t82 H fun t83 H =>
  onBool t83 (some ((.int .i64 (.ofNat 2)), H)) (some ((.int .i64 (.ofNat 0)), H))
noncomputable def S110_1 (call : CallFn) (t5 t74 t77 : AV) (H : AHeap) : R :=
  pPick t74 (.bool true) t77 H fun t78 H =>
  guardA t78 false (pFa 3 t5 H fun t80 H =>
  ldK .none H t80 fun t81 H =>
  pNeq t81 (.int .i64 (.ofNat 0)) H fun t82 H =>
  S110_0 call t78 t82 H) (S110_0 call t78 U H)
noncomputable def S110_2 (call : CallFn) (t1 t57 t63 : AV) (H : AHeap) : R :=
  pPick t57 (.bool true) t63 H fun t64 H =>
  onBool t64 (some ((.int .i64 (.ofNat 2)), H)) (pFa 4 t1 H fun t65 H =>
  ldK .none H t65 fun t66 H =>
  pFa 5 t1 H fun t67 H =>
  ldK .none H t67 fun t68 H =>
  pIa 7 t66 t68 H fun t69 H =>
  ldK (.some 7) H t69 fun t70 H =>
  pNew [(.int .i64 (.ofNat 0)), (.int .i64 (.ofNat 0)), (.int .i64 (.ofNat 0)), (.int .i64 (.ofNat 0)), .nilsl, .nilsl, .nilsl] H fun t5 H =>
  stK 7 H t5 t70 fun _ H =>
  pFa 0 t5 H fun t71 H =>
  ldK .none H t71 fun t72 H =>
  pNeq t72 (.int .i64 (.ofNat 0)) H fun t73 H =>
  guardA t73 false (pFa 1 t5 H fun t75 H =>
  ldK .none H t75 fun t76 H =>
  pNeq t76 (.int .i64 (.ofNat 0)) H fun t77 H =>
  S110_1 call t5 t73 t77 H) (S110_1 call t5 t73 U H))
noncomputable def S110_3 (call : CallFn) (t1 t47 t51 : AV) (H : AHeap) : R :=
  pPick t47 (.bool true) t51 H fun t52 H =>
  onBool t52 (some ((.int .i64 (.ofNat 1)), H)) (pFa 5 t1 H fun t54 H =>
  ldK .none H t54 fun t55 H =>
  pLss t55 (.int .i64 (.ofNat 0)) H fun t56 H =>
  guardA t56 false (pFa 5 t1 H fun t58 H =>
  ldK .none H t58 fun t59 H =>
  pFa 4 t1 H fun t60 H =>
  ldK .none H t60 fun t61 H =>
  pO (aLen .sl H t61) H fun t62 H =>
  pGeq t59 t62 H fun t63 H =>
  S110_2 call t1 t56 t63 H) (S110_2 call t1 t56 U H))
noncomputable def S110_4 (call : CallFn) (t1 t41 t45 : AV) (H : AHeap) : R :=
  pPick t41 (.bool true) t45 H fun t46 H =>
  guardA t46 false (pFa 4 t1 H fun t48 H =>
  ldK .none H t48 fun t49 H =>
  pO (aLen .sl H t49) H fun t50 H =>
  pLss t50 (.int .i64 (.ofNat 1)) H fun t51 H =>
  S110_3 call t1 t46 t51 H) (S110_3 call t1 t46 U H)
noncomputable def S110_5 (call : CallFn) (t1 t35 t39 : AV) (H : AHeap) : R :=
  pPick t35 (.bool true) t39 H fun t40 H =>
  guardA t40 false (pFa 4 t1 H fun t42 H =>
  ldK .none H t42 fun t43 H =>
  pO (aLen .sl H t43) H fun t44 H =>
  pGtr t44 (.int .i64 (.ofNat 128)) H fun t45 H =>
  S110_4 call t1 t40 t45 H) (S110_4 call t1 t40 U H)
noncomputable def S110_6 (call : CallFn) (t1 t29 t33 : AV) (H : AHeap) : R :=
  pPick t29 (.bool true) t33 H fun t34 H =>
  guardA t34 false (pFa 3 t1 H fun t36 H =>
  ldK .none H t36 fun t37 H =>
  pO (aLen .sl H t37) H fun t38 H =>
  pGtr t38 (.int .i64 (.ofNat 1024)) H fun t39 H =>
  S110_5 call t1 t34 t39 H) (S110_5 call t1 t34 U H)
noncomputable def S110_7 (call : CallFn) (t1 t4 t23 t27 : AV) (H : AHeap) : R :=
  pPick t23 (.bool true) t27 H fun t28 H =>
  guardA t28 false (pFa 2 t1 H fun t30 H =>
  ldK .none H t30 fun t31 H =>
  pC call 179 [t31, t4] H fun t33 H =>
  S110_6 call t1 t28 t33 H) (S110_6 call t1 t28 U H)
noncomputable def S110_8 (call : CallFn) (t1 t4 t17 t21 : AV) (H : AHeap) : R :=
  pPick t17 (.bool true) t21 H fun t22 H =>
  guardA t22 false (pFa 2 t1 H fun t24 H =>
  ldK .none H t24 fun t25 H =>
  pO (aLen .sl H t25) H fun t26 H =>
  pGtr t26 (.int .i64 (.ofNat 4096)) H fun t27 H =>
  S110_7 call t1 t4 t22 t27 H) (S110_7 call t1 t4 t22 U H)
noncomputable def S110_9 (call : CallFn) (t1 t4 t11 t15 : AV) (H : AHeap) : R :=
  pPick t11 (.bool true) t15 H fun t16 H =>
  guardA t16 false (pFa 1 t1 H fun t18 H =>
  ldK .none H t18 fun t19 H =>
  pO (aLen .sl H t19) H fun t20 H =>
  pGtr t20 (.int .i64 (.ofNat 256)) H fun t21 H =>
  S110_8 call t1 t4 t16 t21 H) (S110_8 call t1 t4 t16 U H)
noncomputable def S110_10 (call : CallFn) (t0 : AV) (H : AHeap) : R :=
  pBox t0 H fun t1 H =>
  pFa 0 t1 H fun t7 H =>
  ldK .none H t7 fun t8 H =>
  pC call 178 [t8, (.fn 175 [] [])] H fun t10 H =>
  guardA t10 false (pFa 0 t1 H fun t12 H =>
  ldK .none H t12 fun t13 H =>
  pO (aLen .sl H t13) H fun t14 H =>
  pGtr t14 (.int .i64 (.ofNat 1024)) H fun t15 H =>
  S110_9 call t1 (.fn 176 [] []) t10 t15 H) (S110_9 call t1 (.fn 176 [] []) t10 U H)
noncomputable def S110 : Ff := ⟨fun call l H => argA1 (fun t0 => S110_10 call t0 H) l⟩
/- gantline/verify.whole -/
noncomputable def S111_0 (_ : CallFn) (t73 t78 : AV) (H : AHeap) : R :=
  pPick t73 t78 (.bool false) H fun t79 H =>
  some (t79, H)
noncomputable def S111_1 (call : CallFn) (t1 t3 t69 t71 : AV) (H : AHeap) : R :=
  pPick t69 t71 (.bool false) H fun t72 H =>
  guardA t72 true (pFa 6 t1 H fun t74 H =>
  ldK .none H t74 fun t75 H =>
  pO (aLen .sl H t75) H fun t76 H =>
  pEql t76 t3 H fun t78 H =>
  S111_0 call t72 t78 H) (S111_0 call t72 U H)
noncomputable def S111_2 (call : CallFn) (t1 t3 t65 t67 : AV) (H : AHeap) : R :=
  pPick t65 t67 (.bool false) H fun t68 H =>
  guardA t68 true (pLeq t3 (.int .i64 (.ofNat 4096)) H fun t71 H =>
  S111_1 call t1 t3 t68 t71 H) (S111_1 call t1 t3 t68 U H)
noncomputable def S111_3 (call : CallFn) (t1 t3 t60 t63 : AV) (H : AHeap) : R :=
  pPick t60 t63 (.bool false) H fun t64 H =>
  guardA t64 true (pGeq t3 (.int .i64 (.ofNat 1)) H fun t67 H =>
  S111_2 call t1 t3 t64 t67 H) (S111_2 call t1 t3 t64 U H)
noncomputable def S111_4 (call : CallFn) (t1 t3 t55 t58 : AV) (H : AHeap) : R :=
  pPick t55 t58 (.bool false) H fun t59 H =>
  guardA t59 true (pFa 3 t1 H fun t61 H =>
  ldK .none H t61 fun t62 H =>
  pLeq t62 (.int .i64 (.ofNat 2)) H fun t63 H =>
  S111_3 call t1 t3 t59 t63 H) (S111_3 call t1 t3 t59 U H)
noncomputable def S111_5 (call : CallFn) (t1 t3 t47 t53 : AV) (H : AHeap) : R :=
  pPick t47 t53 (.bool false) H fun t54 H =>
  guardA t54 true (pFa 3 t1 H fun t56 H =>
  ldK .none H t56 fun t57 H =>
  pGeq t57 (.int .i64 (.ofNat 0)) H fun t58 H =>
  S111_4 call t1 t3 t54 t58 H) (S111_4 call t1 t3 t54 U H)
noncomputable def S111_6 (call : CallFn) (t1 t3 t37 t45 : AV) (H : AHeap) : R :=
  pPick t37 t45 (.bool false) H fun t46 H =>
  guardA t46 true (pFa 4 t1 H fun t48 H =>
  ldK .none H t48 fun t49 H =>
  pO (aLen .sl H t49) H fun t50 H =>
  pFa 2 t1 H fun t51 H =>
  ldK .none H t51 fun t52 H =>
  pEql t50 t52 H fun t53 H =>
  S111_5 call t1 t3 t46 t53 H) (S111_5 call t1 t3 t46 U H)
noncomputable def S111_7 (call : CallFn) (t1 t3 t30 t35 : AV) (H : AHeap) : R :=
  pPick t30 t35 (.bool false) H fun t36 H =>
  guardA t36 true (pFa 1 t1 H fun t38 H =>
  ldK .none H t38 fun t39 H =>
  pFa 2 t1 H fun t40 H =>
  ldK .none H t40 fun t41 H =>
  pFa 0 t1 H fun t42 H =>
  ldK .none H t42 fun t43 H =>
  pSub t41 t43 H fun t44 H =>
  pLeq t39 t44 H fun t45 H =>
  S111_6 call t1 t3 t36 t45 H) (S111_6 call t1 t3 t36 U H)
noncomputable def S111_8 (call : CallFn) (t1 t3 t25 t28 : AV) (H : AHeap) : R :=
  pPick t25 t28 (.bool false) H fun t29 H =>
  guardA t29 true (pFa 0 t1 H fun t31 H =>
  ldK .none H t31 fun t32 H =>
  pFa 2 t1 H fun t33 H =>
  ldK .none H t33 fun t34 H =>
  pLeq t32 t34 H fun t35 H =>
  S111_7 call t1 t3 t29 t35 H) (S111_7 call t1 t3 t29 U H)
noncomputable def S111_9 (call : CallFn) (t1 t3 t20 t23 : AV) (H : AHeap) : R :=
  pPick t20 t23 (.bool false) H fun t24 H =>
  guardA t24 true (pFa 2 t1 H fun t26 H =>
  ldK .none H t26 fun t27 H =>
  pLeq t27 (.int .i64 (.ofNat 64)) H fun t28 H =>
  S111_8 call t1 t3 t24 t28 H) (S111_8 call t1 t3 t24 U H)
noncomputable def S111_10 (call : CallFn) (t1 t3 t15 t18 : AV) (H : AHeap) : R :=
  pPick t15 t18 (.bool false) H fun t19 H =>
  guardA t19 true (pFa 2 t1 H fun t21 H =>
  ldK .none H t21 fun t22 H =>
  pGeq t22 (.int .i64 (.ofNat 0)) H fun t23 H =>
  S111_9 call t1 t3 t19 t23 H) (S111_9 call t1 t3 t19 U H)
noncomputable def S111_11 (call : CallFn) (t1 t3 t10 t13 : AV) (H : AHeap) : R :=
  pPick t10 t13 (.bool false) H fun t14 H =>
  guardA t14 true (pFa 1 t1 H fun t16 H =>
  ldK .none H t16 fun t17 H =>
  pLeq t17 (.int .i64 (.ofNat 62)) H fun t18 H =>
  S111_10 call t1 t3 t14 t18 H) (S111_10 call t1 t3 t14 U H)
noncomputable def S111_12 (call : CallFn) (t0 : AV) (H : AHeap) : R :=
  pBox t0 H fun t1 H =>
  pFa 5 t1 H fun t4 H =>
  ldK .none H t4 fun t5 H =>
  pO (aLen .sl H t5) H fun t6 H =>
  pFa 0 t1 H fun t7 H =>
  ldK .none H t7 fun t8 H =>
  pGeq t8 (.int .i64 (.ofNat 0)) H fun t9 H =>
  guardA t9 true (pFa 1 t1 H fun t11 H =>
  ldK .none H t11 fun t12 H =>
  pGeq t12 (.int .i64 (.ofNat 0)) H fun t13 H =>
  S111_11 call t1 t6 t9 t13 H) (S111_11 call t1 t6 t9 U H)
noncomputable def S111 : Ff := ⟨fun call l H => argA1 (fun t0 => S111_12 call t0 H) l⟩
/- slices.Contains[[]int,int] -/
noncomputable def S112_0 (call : CallFn) (t0 t1 : AV) (H : AHeap) : R :=
  pC call 180 [t0, t1] H fun t7 H =>
  pGeq t7 (.int .i64 (.ofNat 0)) H fun t8 H =>
  some (t8, H)
noncomputable def S112 : Ff := ⟨fun call l H => argA2 (fun t0 t1 => S112_0 call t0 t1 H) l⟩
/- (*gantline/verify.checker).rule -/
noncomputable def S113_0 (call : CallFn) (t0 t1 : AV) (H : AHeap) : R :=
  pEql t1 (.int .i64 (.ofNat 4)) H fun t7 H =>
  onBool t7 (pC call 181 [t0] H fun t9 H =>
  some (t9, H)) (pEql t1 (.int .i64 (.ofNat 5)) H fun t11 H =>
  onBool t11 (pC call 182 [t0] H fun t13 H =>
  some (t13, H)) (pEql t1 (.int .i64 (.ofNat 6)) H fun t15 H =>
  onBool t15 (pC call 183 [t0] H fun t17 H =>
  some (t17, H)) (pEql t1 (.int .i64 (.ofNat 7)) H fun t19 H =>
  onBool t19 (pC call 184 [t0] H fun t21 H =>
  some (t21, H)) (pEql t1 (.int .i64 (.ofNat 8)) H fun t23 H =>
  onBool t23 (pC call 185 [t0] H fun t25 H =>
  some (t25, H)) (pEql t1 (.int .i64 (.ofNat 9)) H fun t27 H =>
  onBool t27 (pO (aNil t0) H fun t29 H =>
  pFa 6 t29 H fun t30 H =>
  pFa 6 t30 H fun t31 H =>
  ldK .none H t31 fun t32 H =>
  pO (aNil t0) H fun t34 H =>
  pFa 16 t34 H fun t35 H =>
  ldK .none H t35 fun t36 H =>
  pIa 1 t32 t36 H fun t37 H =>
  ldK .none H t37 fun t38 H =>
  pO (aNil t0) H fun t40 H =>
  pFa 13 t40 H fun t41 H =>
  ldK .none H t41 fun t42 H =>
  pO (aNil t0) H fun t44 H =>
  pFa 16 t44 H fun t45 H =>
  ldK .none H t45 fun t46 H =>
  pIa 1 t42 t46 H fun t47 H =>
  ldK .none H t47 fun t48 H =>
  pEql t38 t48 H fun t49 H =>
  some (t49, H)) (pC call 186 [t0] H fun t51 H =>
  some (t51, H)))))))
noncomputable def S113 : Ff := ⟨fun call l H => argA2 (fun t0 t1 => S113_0 call t0 t1 H) l⟩
/- strings.HasPrefix -/
noncomputable def S114_0 (call : CallFn) (t0 t1 : AV) (H : AHeap) : R :=
  pC call 187 [t0, t1] H fun t7 H =>
  some (t7, H)
noncomputable def S114 : Ff := ⟨fun call l H => argA2 (fun t0 t1 => S114_0 call t0 t1 H) l⟩
/- gantline/lex.while -/
noncomputable def S115_1 (_ : CallFn) (q0 : AV → AV → AV → AHeap → R) (t0 t1 t5 t10 t15 : AV) (H : AHeap) : R :=
  pPick t10 t15 (.bool false) H fun t16 H =>
  onBool t16 (pAdd t5 (.int .i64 (.ofNat 1)) H fun t18 H =>
  q0 t0 t1 t18 H) (some (t5, H))
noncomputable def S115_0 (call : CallFn) (n : Nat) : AV → AV → AV → AHeap → R :=
  Nat.rec (motive := fun _ => AV → AV → AV → AHeap → R) (fun _ _ _ _ => none) (fun _ q0 t0 t1 t5 H => pO (aLen .str H t0) H fun t8 H =>
  pLss t5 t8 H fun t9 H =>
  guardA t9 true (pO (aIdxS t0 t5) H fun t14 H =>
  pV call t1 [t14] H fun t15 H =>
  S115_1 call q0 t0 t1 t5 t9 t15 H) (S115_1 call q0 t0 t1 t5 t9 U H)) n
noncomputable def S115 : Ff := ⟨fun call l H => argA2 (fun t0 t1 => S115_0 call 1000000 t0 t1 (.int .i64 (.ofNat 0)) H) l⟩
/- gantline/lex.letter -/
noncomputable def S117_0 (_ : CallFn) (t17 t19 : AV) (H : AHeap) : R :=
  pPick t17 (.bool true) t19 H fun t20 H =>
  some (t20, H)
noncomputable def S117_1 (call : CallFn) (t0 t9 t15 : AV) (H : AHeap) : R :=
  pPick t9 (.bool true) t15 H fun t16 H =>
  guardA t16 false (pEql t0 (.int .u8 (.ofNat 95)) H fun t19 H =>
  S117_0 call t16 t19 H) (S117_0 call t16 U H)
noncomputable def S117_2 (call : CallFn) (t0 t9 t12 t14 : AV) (H : AHeap) : R :=
  guardA t9 false (pPick t12 t14 (.bool false) H fun t15 H =>
  S117_1 call t0 t9 t15 H) (S117_1 call t0 t9 U H)
noncomputable def S117_3 (call : CallFn) (t0 t9 t12 : AV) (H : AHeap) : R :=
  guardA t12 true (pLeq t0 (.int .u8 (.ofNat 90)) H fun t14 H =>
  S117_2 call t0 t9 t12 t14 H) (S117_2 call t0 t9 t12 U H)
noncomputable def S117_4 (call : CallFn) (t0 t5 t7 : AV) (H : AHeap) : R :=
  pPick t5 t7 (.bool false) H fun t8 H =>
  guardA t8 false (pGeq t0 (.int .u8 (.ofNat 65)) H fun t11 H =>
  S117_3 call t0 t8 t11 H) (S117_3 call t0 t8 U H)
noncomputable def S117_5 (call : CallFn) (t0 : AV) (H : AHeap) : R :=
  pGeq t0 (.int .u8 (.ofNat 97)) H fun t4 H =>
  guardA t4 true (pLeq t0 (.int .u8 (.ofNat 122)) H fun t7 H =>
  S117_4 call t0 t4 t7 H) (S117_4 call t0 t4 U H)
noncomputable def S117 : Ff := ⟨fun call l H => argA1 (fun t0 => S117_5 call t0 H) l⟩
/- gantline/lex.inName -/
noncomputable def S118_0 (_ : CallFn) (t5 t7 : AV) (H : AHeap) : R :=
  pPick t5 (.bool true) t7 H fun t8 H =>
  some (t8, H)
noncomputable def S118_1 (call : CallFn) (t0 : AV) (H : AHeap) : R :=
  pC call 117 [t0] H fun t4 H =>
  guardA t4 false (pC call 120 [t0] H fun t7 H =>
  S118_0 call t4 t7 H) (S118_0 call t4 U H)
noncomputable def S118 : Ff := ⟨fun call l H => argA1 (fun t0 => S118_1 call t0 H) l⟩
/- gantline/lex.Kept -/
noncomputable def S119_0 (_ : CallFn) (t4 : AV) (H : AHeap) : R :=
  onBool t4 (some ((.bool true), H)) (some ((.bool false), H))
noncomputable def S119_1 (call : CallFn) (t0 : AV) (H : AHeap) : R :=
  pEql t0 (.str [115, 116, 114, 117, 99, 116]) H fun t5 H =>
  onBool t5 (S119_0 call t5 H) (pEql t0 (.str [118, 97, 114]) H fun t6 H =>
  onBool t6 (S119_0 call t6 H) (pEql t0 (.str [102, 117, 110, 99]) H fun t7 H =>
  onBool t7 (S119_0 call t7 H) (pEql t0 (.str [105, 110, 116]) H fun t8 H =>
  onBool t8 (S119_0 call t8 H) (pEql t0 (.str [98, 111, 111, 108]) H fun t9 H =>
  onBool t9 (S119_0 call t9 H) (pEql t0 (.str [99, 104, 97, 110]) H fun t10 H =>
  onBool t10 (S119_0 call t10 H) (pEql t0 (.str [105, 102]) H fun t11 H =>
  onBool t11 (S119_0 call t11 H) (pEql t0 (.str [101, 108, 115, 101]) H fun t12 H =>
  onBool t12 (S119_0 call t12 H) (pEql t0 (.str [119, 104, 105, 108, 101]) H fun t13 H =>
  onBool t13 (S119_0 call t13 H) (pEql t0 (.str [114, 101, 116, 117, 114, 110]) H fun t14 H =>
  onBool t14 (S119_0 call t14 H) (pEql t0 (.str [112, 114, 105, 110, 116]) H fun t15 H =>
  onBool t15 (S119_0 call t15 H) (pEql t0 (.str [103, 111]) H fun t16 H =>
  onBool t16 (S119_0 call t16 H) (pEql t0 (.str [115, 101, 110, 100]) H fun t17 H =>
  onBool t17 (S119_0 call t17 H) (pEql t0 (.str [99, 108, 111, 115, 101]) H fun t18 H =>
  onBool t18 (S119_0 call t18 H) (pEql t0 (.str [115, 101, 108, 101, 99, 116]) H fun t19 H =>
  onBool t19 (S119_0 call t19 H) (pEql t0 (.str [99, 97, 115, 101]) H fun t20 H =>
  onBool t20 (S119_0 call t20 H) (pEql t0 (.str [100, 101, 102, 97, 117, 108, 116]) H fun t21 H =>
  onBool t21 (S119_0 call t21 H) (pEql t0 (.str [114, 101, 99, 118]) H fun t22 H =>
  onBool t22 (S119_0 call t22 H) (pEql t0 (.str [116, 114, 117, 101]) H fun t23 H =>
  onBool t23 (S119_0 call t23 H) (pEql t0 (.str [102, 97, 108, 115, 101]) H fun t24 H =>
  onBool t24 (S119_0 call t24 H) (pEql t0 (.str [110, 105, 108]) H fun t25 H =>
  onBool t25 (S119_0 call t25 H) (pEql t0 (.str [110, 101, 119]) H fun t26 H =>
  onBool t26 (S119_0 call t26 H) (pEql t0 (.str [109, 97, 107, 101]) H fun t27 H =>
  onBool t27 (S119_0 call t27 H) (pEql t0 (.str [108, 101, 110]) H fun t28 H =>
  S119_0 call t28 H)))))))))))))))))))))))
noncomputable def S119 : Ff := ⟨fun call l H => argA1 (fun t0 => S119_1 call t0 H) l⟩
/- gantline/lex.digit -/
noncomputable def S120_0 (_ : CallFn) (t5 t7 : AV) (H : AHeap) : R :=
  pPick t5 t7 (.bool false) H fun t8 H =>
  some (t8, H)
noncomputable def S120_1 (call : CallFn) (t0 : AV) (H : AHeap) : R :=
  pGeq t0 (.int .u8 (.ofNat 48)) H fun t4 H =>
  guardA t4 true (pLeq t0 (.int .u8 (.ofNat 57)) H fun t7 H =>
  S120_0 call t4 t7 H) (S120_0 call t4 U H)
noncomputable def S120 : Ff := ⟨fun call l H => argA1 (fun t0 => S120_1 call t0 H) l⟩
/- strconv.ParseUint -/
noncomputable def S121_0 (call : CallFn) (t0 t1 t2 : AV) (H : AHeap) : R :=
  pC call 188 [t0, t1, t2] H fun t14 H =>
  pExt t14 0 H fun t15 H =>
  pExt t14 1 H fun t16 H =>
  pO (aEq true .ifc t16 .nilif) H fun t18 H =>
  onBool t18 (pC call 189 [(.str [80, 97, 114, 115, 101, 85, 105, 110, 116]), t0, t1, t2, t16] H fun t24 H =>
  some (.tup [t15, t24], H)) (some (.tup [t15, .nilif], H))
noncomputable def S121 : Ff := ⟨fun call l H => argA3 (fun t0 t1 t2 => S121_0 call t0 t1 t2 H) l⟩
/- gantline/lex.signs -/
noncomputable def S122_0 (_ : CallFn) (H : AHeap) : R :=
  pN (aBsl 1 30 [(.str [])] [(0, 1, (.str [61, 61])), (1, 1, (.str [33, 61])), (2, 1, (.str [60, 61])), (3, 1, (.str [62, 61])), (4, 1, (.str [60, 60])), (5, 1, (.str [62, 62])), (6, 1, (.str [38, 38])), (7, 1, (.str [124, 124])), (8, 1, (.str [40])), (9, 1, (.str [41])), (10, 1, (.str [123])), (11, 1, (.str [125])), (12, 1, (.str [91])), (13, 1, (.str [93])), (14, 1, (.str [44])), (15, 1, (.str [59])), (16, 1, (.str [46])), (17, 1, (.str [61])), (18, 1, (.str [60])), (19, 1, (.str [62])), (20, 1, (.str [43])), (21, 1, (.str [45])), (22, 1, (.str [42])), (23, 1, (.str [47])), (24, 1, (.str [37])), (25, 1, (.str [38])), (26, 1, (.str [124])), (27, 1, (.str [94])), (28, 1, (.str [33])), (29, 1, (.str [58]))]) H fun t1 H =>
  some (t1, H)
noncomputable def S122 : Ff := ⟨fun call l H => argA0 (S122_0 call H) l⟩
/- (*gantline/parse.parser).take -/
noncomputable def S123_0 (call : CallFn) (t0 t1 : AV) (H : AHeap) : R :=
  pN (aBsl 1 1 [(.str [])] [(0, 1, t1)]) H fun t7 H =>
  pC call 126 [t0, t7] H fun t8 H =>
  pO (aUn .not t8) H fun t9 H =>
  onBool t9 (some ((.bool false), H)) (pC call 190 [t0] H fun _ H =>
  some ((.bool true), H))
noncomputable def S123 : Ff := ⟨fun call l H => argA2 (fun t0 t1 => S123_0 call t0 t1 H) l⟩
/- (*gantline/parse.parser).name -/
noncomputable def S124_0 (call : CallFn) (t0 : AV) (H : AHeap) : R :=
  pNew [(.int .i64 (.ofNat 0)), (.str []), (.int .i64 (.ofNat 0))] H fun t2 H =>
  pC call 62 [t0] H fun t4 H =>
  pO (aFld 0 .none t4) H fun t5 H =>
  pNeq t5 (.int .i64 (.ofNat 1)) H fun t6 H =>
  onBool t6 (pC call 129 [t0, (.int .i64 (.ofNat 6))] H fun _ H =>
  pO (someAgg (aFill [(.int .i64 (.ofNat 0)), (.str []), (.int .i64 (.ofNat 0))] [])) H fun t9 H =>
  stK 3 H t2 t9 fun _ H =>
  ob (allM (fun o => o) [aLoad (.some 3) H t2]) fun vs => some (resV vs, H)) (pC call 190 [t0] H fun t11 H =>
  stK 3 H t2 t11 fun _ H =>
  ob (allM (fun o => o) [aLoad (.some 3) H t2]) fun vs => some (resV vs, H))
noncomputable def S124 : Ff := ⟨fun call l H => argA1 (fun t0 => S124_0 call t0 H) l⟩
/- (*gantline/parse.parser).want -/
noncomputable def S125_0 (call : CallFn) (t0 t1 : AV) (H : AHeap) : R :=
  pNew [(.int .i64 (.ofNat 0)), (.str []), (.int .i64 (.ofNat 0))] H fun t4 H =>
  pN (aBsl 1 1 [(.str [])] [(0, 1, t1)]) H fun t7 H =>
  pC call 126 [t0, t7] H fun t8 H =>
  pO (aUn .not t8) H fun t9 H =>
  onBool t9 (pC call 129 [t0, (.int .i64 (.ofNat 6))] H fun _ H =>
  pO (someAgg (aFill [(.int .i64 (.ofNat 0)), (.str []), (.int .i64 (.ofNat 0))] [])) H fun t12 H =>
  stK 3 H t4 t12 fun _ H =>
  ob (allM (fun o => o) [aLoad (.some 3) H t4]) fun vs => some (resV vs, H)) (pC call 190 [t0] H fun t14 H =>
  stK 3 H t4 t14 fun _ H =>
  ob (allM (fun o => o) [aLoad (.some 3) H t4]) fun vs => some (resV vs, H))
noncomputable def S125 : Ff := ⟨fun call l H => argA2 (fun t0 t1 => S125_0 call t0 t1 H) l⟩
/- (*gantline/parse.parser).is -/
noncomputable def S126_0 (_ : CallFn) (t21 t25 : AV) (H : AHeap) : R :=
  pPick t21 t25 (.bool false) H fun t26 H =>
  some (t26, H)
noncomputable def S126_1 (call : CallFn) (t1 t5 t16 t19 : AV) (H : AHeap) : R :=
  pPick t16 t19 (.bool false) H fun t20 H =>
  guardA t20 true (pFa 1 t5 H fun t23 H =>
  ldK .none H t23 fun t24 H =>
  pC call 191 [t1, t24] H fun t25 H =>
  S126_0 call t20 t25 H) (S126_0 call t20 U H)
noncomputable def S126_2 (call : CallFn) (t1 t5 t11 t14 : AV) (H : AHeap) : R :=
  pPick t11 t14 (.bool false) H fun t15 H =>
  guardA t15 true (pFa 0 t5 H fun t17 H =>
  ldK .none H t17 fun t18 H =>
  pNeq t18 (.int .i64 (.ofNat 0)) H fun t19 H =>
  S126_1 call t1 t5 t15 t19 H) (S126_1 call t1 t5 t15 U H)
noncomputable def S126_3 (call : CallFn) (t0 t1 : AV) (H : AHeap) : R :=
  pC call 62 [t0] H fun t7 H =>
  pNew [(.int .i64 (.ofNat 0)), (.str []), (.int .i64 (.ofNat 0))] H fun t5 H =>
  stK 3 H t5 t7 fun _ H =>
  pFa 0 t5 H fun t8 H =>
  ldK .none H t8 fun t9 H =>
  pNeq t9 (.int .i64 (.ofNat 1)) H fun t10 H =>
  guardA t10 true (pFa 0 t5 H fun t12 H =>
  ldK .none H t12 fun t13 H =>
  pNeq t13 (.int .i64 (.ofNat 3)) H fun t14 H =>
  S126_2 call t1 t5 t10 t14 H) (S126_2 call t1 t5 t10 U H)
noncomputable def S126 : Ff := ⟨fun call l H => argA2 (fun t0 t1 => S126_3 call t0 t1 H) l⟩
/- (*gantline/parse.parser).body -/
noncomputable def S128_0 (call : CallFn) (t0 : AV) (H : AHeap) : R :=
  pBox t0 H fun t1 H =>
  ldK .none H t1 fun t5 H =>
  pC call 125 [t5, (.str [40])] H fun _ H =>
  ldK .none H t1 fun t7 H =>
  pC call 61 [t7, (.str [112, 97, 114, 97, 109, 115])] H fun t8 H =>
  pNew [(.str []), (.str []), (.int .i64 (.ofNat 0)), .nilsl] H fun t3 H =>
  stK 4 H t3 t8 fun _ H =>
  ldK .none H t1 fun t9 H =>
  pC call 193 [t9, (.fn 194 [] [t1])] H fun t11 H =>
  pFa 3 t3 H fun t12 H =>
  stK 1 H t12 t11 fun _ H =>
  ldK .none H t1 fun t13 H =>
  pC call 195 [t13] H fun t14 H =>
  pNew [(.str []), (.str []), (.int .i64 (.ofNat 0)), .nilsl] H fun t4 H =>
  stK 4 H t4 t14 fun _ H =>
  ldK (.some 4) H t3 fun t15 H =>
  ldK (.some 4) H t4 fun t16 H =>
  ldK .none H t1 fun t17 H =>
  pC call 196 [t17] H fun t18 H =>
  andR (andB (ckV (aLoad (.some 4) H t3) t15) (andB (ckV (aLoad (.some 4) H t4) t16) true)) (
  pN (aBsl 4 3 [(.str []), (.str []), (.int .i64 (.ofNat 0)), .nilsl] [(0, 4, t15), (4, 4, t16), (8, 4, t18)]) H fun t19 H =>
  some (t19, H))
noncomputable def S128 : Ff := ⟨fun call l H => argA1 (fun t0 => S128_0 call t0 H) l⟩
/- (*gantline/parse.parser).fail -/
noncomputable def S129_0 (call : CallFn) (t0 t1 : AV) (H : AHeap) : R :=
  pO (aNil t0) H fun t5 H =>
  pFa 3 t5 H fun t6 H =>
  ldK .none H t6 fun t7 H =>
  pEql t7 (.int .i64 (.ofNat 0)) H fun t8 H =>
  onBool t8 (pC call 62 [t0] H fun t13 H =>
  pO (aFld 2 .none t13) H fun t14 H =>
  pO (aNil t0) H fun t15 H =>
  pFa 3 t15 H fun t16 H =>
  stK 1 H t16 t1 fun _ H =>
  pO (aNil t0) H fun t17 H =>
  pFa 4 t17 H fun t18 H =>
  stK 1 H t18 t14 fun _ H =>
  pO (aNil t0) H fun t21 H =>
  pFa 0 t21 H fun t22 H =>
  ldK .none H t22 fun t23 H =>
  pO (aLen .sl H t23) H fun t24 H =>
  pSub t24 (.int .i64 (.ofNat 1)) H fun t25 H =>
  pO (aNil t0) H fun t26 H =>
  pFa 1 t26 H fun t27 H =>
  stK 1 H t27 t25 fun _ H =>
  some (.tup [], H)) (some (.tup [], H))
noncomputable def S129 : Ff := ⟨fun call l H => argA2 (fun t0 t1 => S129_0 call t0 t1 H) l⟩
/- gantline/tree.find -/
noncomputable def S130_0 (_ : CallFn) (t2 t4 t71 : AV) (H : AHeap) : R :=
  onBool t71 (pN (aBsl 1 1 [(.str [])] [(0, 1, (.str [97, 110, 32, 101, 120, 112, 114, 101, 115, 115, 105, 111, 110]))]) H fun t79 H =>
  pO (someAgg (aFill [.nilsl, (.str [])] [(0, 1, t79)])) H fun t80 H =>
  stK 2 H t2 t80 fun _ H =>
  ob (allM (fun o => o) [aLoad (.some 2) H t2, some (.bool true)]) fun vs => some (resV vs, H)) (pEql t4 (.str [103, 111]) H fun t82 H =>
  onBool t82 (pN (aBsl 1 1 [(.str [])] [(0, 1, (.str [99, 97, 108, 108]))]) H fun t83 H =>
  pO (someAgg (aFill [.nilsl, (.str [])] [(0, 1, t83)])) H fun t84 H =>
  stK 2 H t2 t84 fun _ H =>
  ob (allM (fun o => o) [aLoad (.some 2) H t2, some (.bool true)]) fun vs => some (resV vs, H)) (pEql t4 (.str [115, 101, 108, 101, 99, 116]) H fun t86 H =>
  onBool t86 (pO (someAgg (aFill [.nilsl, (.str [])] [(1, 1, (.str [97, 32, 99, 97, 115, 101]))])) H fun t87 H =>
  stK 2 H t2 t87 fun _ H =>
  ob (allM (fun o => o) [aLoad (.some 2) H t2, some (.bool true)]) fun vs => some (resV vs, H)) (pEql t4 (.str [111, 110, 115, 101, 110, 100]) H fun t89 H =>
  onBool t89 (pN (aBsl 1 3 [(.str [])] [(0, 1, (.str [97, 110, 32, 101, 120, 112, 114, 101, 115, 115, 105, 111, 110])), (1, 1, (.str [97, 110, 32, 101, 120, 112, 114, 101, 115, 115, 105, 111, 110])), (2, 1, (.str [98, 108, 111, 99, 107]))]) H fun t90 H =>
  pO (someAgg (aFill [.nilsl, (.str [])] [(0, 1, t90)])) H fun t91 H =>
  stK 2 H t2 t91 fun _ H =>
  ob (allM (fun o => o) [aLoad (.some 2) H t2, some (.bool true)]) fun vs => some (resV vs, H)) (pEql t4 (.str [100, 101, 102, 97, 117, 108, 116]) H fun t93 H =>
  onBool t93 (pN (aBsl 1 1 [(.str [])] [(0, 1, (.str [98, 108, 111, 99, 107]))]) H fun t94 H =>
  pO (someAgg (aFill [.nilsl, (.str [])] [(0, 1, t94)])) H fun t95 H =>
  stK 2 H t2 t95 fun _ H =>
  ob (allM (fun o => o) [aLoad (.some 2) H t2, some (.bool true)]) fun vs => some (resV vs, H)) (pEql t4 (.str [99, 97, 108, 108]) H fun t97 H =>
  onBool t97 (pN (aBsl 1 1 [(.str [])] [(0, 1, (.str [97, 110, 32, 101, 120, 112, 114, 101, 115, 115, 105, 111, 110]))]) H fun t98 H =>
  pO (someAgg (aFill [.nilsl, (.str [])] [(0, 1, t98), (1, 1, (.str [97, 110, 32, 101, 120, 112, 114, 101, 115, 115, 105, 111, 110]))])) H fun t99 H =>
  stK 2 H t2 t99 fun _ H =>
  ob (allM (fun o => o) [aLoad (.some 2) H t2, some (.bool true)]) fun vs => some (resV vs, H)) (pO (someAgg (aFill [.nilsl, (.str [])] [])) H fun t100 H =>
  stK 2 H t2 t100 fun _ H =>
  ob (allM (fun o => o) [aLoad (.some 2) H t2, some (.bool false)]) fun vs => some (resV vs, H)))))))
noncomputable def S130_1 (call : CallFn) (t2 t4 t62 : AV) (H : AHeap) : R :=
  onBool t62 (pN (aBsl 1 2 [(.str [])] [(0, 1, (.str [97, 110, 32, 101, 120, 112, 114, 101, 115, 115, 105, 111, 110])), (1, 1, (.str [98, 108, 111, 99, 107]))]) H fun t65 H =>
  pO (someAgg (aFill [.nilsl, (.str [])] [(0, 1, t65)])) H fun t66 H =>
  stK 2 H t2 t66 fun _ H =>
  ob (allM (fun o => o) [aLoad (.some 2) H t2, some (.bool true)]) fun vs => some (resV vs, H)) (pEql t4 (.str [114, 101, 116, 117, 114, 110]) H fun t68 H =>
  onBool t68 (pN (aBsl 1 1 [(.str [])] [(0, 1, (.str [63, 97, 110, 32, 101, 120, 112, 114, 101, 115, 115, 105, 111, 110]))]) H fun t69 H =>
  pO (someAgg (aFill [.nilsl, (.str [])] [(0, 1, t69)])) H fun t70 H =>
  stK 2 H t2 t70 fun _ H =>
  ob (allM (fun o => o) [aLoad (.some 2) H t2, some (.bool true)]) fun vs => some (resV vs, H)) (pEql t4 (.str [112, 114, 105, 110, 116]) H fun t72 H =>
  onBool t72 (S130_0 call t2 t4 t72 H) (pEql t4 (.str [99, 108, 111, 115, 101]) H fun t73 H =>
  onBool t73 (S130_0 call t2 t4 t73 H) (pEql t4 (.str [100, 111]) H fun t74 H =>
  onBool t74 (S130_0 call t2 t4 t74 H) (pEql t4 (.str [117, 110, 97, 114, 121]) H fun t75 H =>
  onBool t75 (S130_0 call t2 t4 t75 H) (pEql t4 (.str [100, 111, 116]) H fun t76 H =>
  onBool t76 (S130_0 call t2 t4 t76 H) (pEql t4 (.str [108, 101, 110]) H fun t77 H =>
  onBool t77 (S130_0 call t2 t4 t77 H) (pEql t4 (.str [114, 101, 99, 118]) H fun t78 H =>
  S130_0 call t2 t4 t78 H))))))))
noncomputable def S130_2 (call : CallFn) (t2 t4 t51 : AV) (H : AHeap) : R :=
  onBool t51 (pN (aBsl 1 2 [(.str [])] [(0, 1, (.str [97, 110, 32, 101, 120, 112, 114, 101, 115, 115, 105, 111, 110])), (1, 1, (.str [97, 110, 32, 101, 120, 112, 114, 101, 115, 115, 105, 111, 110]))]) H fun t56 H =>
  pO (someAgg (aFill [.nilsl, (.str [])] [(0, 1, t56)])) H fun t57 H =>
  stK 2 H t2 t57 fun _ H =>
  ob (allM (fun o => o) [aLoad (.some 2) H t2, some (.bool true)]) fun vs => some (resV vs, H)) (pEql t4 (.str [105, 102]) H fun t59 H =>
  onBool t59 (pN (aBsl 1 3 [(.str [])] [(0, 1, (.str [97, 110, 32, 101, 120, 112, 114, 101, 115, 115, 105, 111, 110])), (1, 1, (.str [98, 108, 111, 99, 107])), (2, 1, (.str [63, 98, 108, 111, 99, 107]))]) H fun t60 H =>
  pO (someAgg (aFill [.nilsl, (.str [])] [(0, 1, t60)])) H fun t61 H =>
  stK 2 H t2 t61 fun _ H =>
  ob (allM (fun o => o) [aLoad (.some 2) H t2, some (.bool true)]) fun vs => some (resV vs, H)) (pEql t4 (.str [119, 104, 105, 108, 101]) H fun t63 H =>
  onBool t63 (S130_1 call t2 t4 t63 H) (pEql t4 (.str [111, 110, 114, 101, 99, 118]) H fun t64 H =>
  S130_1 call t2 t4 t64 H)))
noncomputable def S130_3 (call : CallFn) (t2 t4 t46 : AV) (H : AHeap) : R :=
  onBool t46 (pN (aBsl 1 2 [(.str [])] [(0, 1, (.str [97, 32, 116, 121, 112, 101])), (1, 1, (.str [97, 110, 32, 101, 120, 112, 114, 101, 115, 115, 105, 111, 110]))]) H fun t49 H =>
  pO (someAgg (aFill [.nilsl, (.str [])] [(0, 1, t49)])) H fun t50 H =>
  stK 2 H t2 t50 fun _ H =>
  ob (allM (fun o => o) [aLoad (.some 2) H t2, some (.bool true)]) fun vs => some (resV vs, H)) (pEql t4 (.str [115, 101, 116]) H fun t52 H =>
  onBool t52 (S130_2 call t2 t4 t52 H) (pEql t4 (.str [115, 101, 110, 100]) H fun t53 H =>
  onBool t53 (S130_2 call t2 t4 t53 H) (pEql t4 (.str [98, 105, 110, 97, 114, 121]) H fun t54 H =>
  onBool t54 (S130_2 call t2 t4 t54 H) (pEql t4 (.str [105, 110, 100, 101, 120]) H fun t55 H =>
  S130_2 call t2 t4 t55 H))))
noncomputable def S130_4 (call : CallFn) (t2 t4 t28 : AV) (H : AHeap) : R :=
  onBool t28 (pO (someAgg (aFill [.nilsl, (.str [])] [])) H fun t38 H =>
  stK 2 H t2 t38 fun _ H =>
  ob (allM (fun o => o) [aLoad (.some 2) H t2, some (.bool true)]) fun vs => some (resV vs, H)) (pEql t4 (.str [102, 110]) H fun t40 H =>
  onBool t40 (pN (aBsl 1 1 [(.str [])] [(0, 1, (.str [63, 97, 32, 116, 121, 112, 101]))]) H fun t41 H =>
  pO (someAgg (aFill [.nilsl, (.str [])] [(0, 1, t41), (1, 1, (.str [97, 32, 116, 121, 112, 101]))])) H fun t42 H =>
  stK 2 H t2 t42 fun _ H =>
  ob (allM (fun o => o) [aLoad (.some 2) H t2, some (.bool true)]) fun vs => some (resV vs, H)) (pEql t4 (.str [98, 108, 111, 99, 107]) H fun t44 H =>
  onBool t44 (pO (someAgg (aFill [.nilsl, (.str [])] [(1, 1, (.str [97, 32, 115, 116, 97, 116, 101, 109, 101, 110, 116]))])) H fun t45 H =>
  stK 2 H t2 t45 fun _ H =>
  ob (allM (fun o => o) [aLoad (.some 2) H t2, some (.bool true)]) fun vs => some (resV vs, H)) (pEql t4 (.str [108, 101, 116]) H fun t47 H =>
  onBool t47 (S130_3 call t2 t4 t47 H) (pEql t4 (.str [109, 97, 107, 101]) H fun t48 H =>
  S130_3 call t2 t4 t48 H))))
noncomputable def S130_5 (call : CallFn) (t2 t4 t20 : AV) (H : AHeap) : R :=
  onBool t20 (pN (aBsl 1 3 [(.str [])] [(0, 1, (.str [112, 97, 114, 97, 109, 115])), (1, 1, (.str [63, 97, 32, 116, 121, 112, 101])), (2, 1, (.str [98, 108, 111, 99, 107]))]) H fun t23 H =>
  pO (someAgg (aFill [.nilsl, (.str [])] [(0, 1, t23)])) H fun t24 H =>
  stK 2 H t2 t24 fun _ H =>
  ob (allM (fun o => o) [aLoad (.some 2) H t2, some (.bool true)]) fun vs => some (resV vs, H)) (pEql t4 (.str [112, 97, 114, 97, 109, 115]) H fun t26 H =>
  onBool t26 (pO (someAgg (aFill [.nilsl, (.str [])] [(1, 1, (.str [112, 97, 114, 97, 109]))])) H fun t27 H =>
  stK 2 H t2 t27 fun _ H =>
  ob (allM (fun o => o) [aLoad (.some 2) H t2, some (.bool true)]) fun vs => some (resV vs, H)) (pEql t4 (.str [110, 111, 110, 101]) H fun t29 H =>
  onBool t29 (S130_4 call t2 t4 t29 H) (pEql t4 (.str [105, 110, 116]) H fun t30 H =>
  onBool t30 (S130_4 call t2 t4 t30 H) (pEql t4 (.str [98, 111, 111, 108]) H fun t31 H =>
  onBool t31 (S130_4 call t2 t4 t31 H) (pEql t4 (.str [110, 97, 109, 101, 100]) H fun t32 H =>
  onBool t32 (S130_4 call t2 t4 t32 H) (pEql t4 (.str [110, 117, 109, 98, 101, 114]) H fun t33 H =>
  onBool t33 (S130_4 call t2 t4 t33 H) (pEql t4 (.str [116, 114, 117, 101]) H fun t34 H =>
  onBool t34 (S130_4 call t2 t4 t34 H) (pEql t4 (.str [102, 97, 108, 115, 101]) H fun t35 H =>
  onBool t35 (S130_4 call t2 t4 t35 H) (pEql t4 (.str [110, 97, 109, 101]) H fun t36 H =>
  onBool t36 (S130_4 call t2 t4 t36 H) (pEql t4 (.str [110, 101, 119]) H fun t37 H =>
  S130_4 call t2 t4 t37 H))))))))))
noncomputable def S130_6 (call : CallFn) (t2 t4 t11 : AV) (H : AHeap) : R :=
  onBool t11 (pN (aBsl 1 1 [(.str [])] [(0, 1, (.str [97, 32, 116, 121, 112, 101]))]) H fun t18 H =>
  pO (someAgg (aFill [.nilsl, (.str [])] [(0, 1, t18)])) H fun t19 H =>
  stK 2 H t2 t19 fun _ H =>
  ob (allM (fun o => o) [aLoad (.some 2) H t2, some (.bool true)]) fun vs => some (resV vs, H)) (pEql t4 (.str [102, 117, 110, 99]) H fun t21 H =>
  onBool t21 (S130_5 call t2 t4 t21 H) (pEql t4 (.str [108, 97, 109, 98, 100, 97]) H fun t22 H =>
  S130_5 call t2 t4 t22 H))
noncomputable def S130_7 (call : CallFn) (t0 : AV) (H : AHeap) : R :=
  pNew [.nilsl, (.str [])] H fun t2 H =>
  pEql t0 (.str [112, 114, 111, 103, 114, 97, 109]) H fun t6 H =>
  onBool t6 (pO (someAgg (aFill [.nilsl, (.str [])] [(1, 1, (.str [97, 32, 100, 101, 99, 108, 97, 114, 97, 116, 105, 111, 110]))])) H fun t7 H =>
  stK 2 H t2 t7 fun _ H =>
  ob (allM (fun o => o) [aLoad (.some 2) H t2, some (.bool true)]) fun vs => some (resV vs, H)) (pEql t0 (.str [115, 116, 114, 117, 99, 116]) H fun t9 H =>
  onBool t9 (pO (someAgg (aFill [.nilsl, (.str [])] [(1, 1, (.str [102, 105, 101, 108, 100]))])) H fun t10 H =>
  stK 2 H t2 t10 fun _ H =>
  ob (allM (fun o => o) [aLoad (.some 2) H t2, some (.bool true)]) fun vs => some (resV vs, H)) (pEql t0 (.str [102, 105, 101, 108, 100]) H fun t12 H =>
  onBool t12 (S130_6 call t2 t0 t12 H) (pEql t0 (.str [103, 108, 111, 98, 97, 108]) H fun t13 H =>
  onBool t13 (S130_6 call t2 t0 t13 H) (pEql t0 (.str [112, 97, 114, 97, 109]) H fun t14 H =>
  onBool t14 (S130_6 call t2 t0 t14 H) (pEql t0 (.str [108, 105, 115, 116]) H fun t15 H =>
  onBool t15 (S130_6 call t2 t0 t15 H) (pEql t0 (.str [99, 104, 97, 110]) H fun t16 H =>
  onBool t16 (S130_6 call t2 t0 t16 H) (pEql t0 (.str [110, 105, 108]) H fun t17 H =>
  S130_6 call t2 t0 t17 H)))))))
noncomputable def S130 : Ff := ⟨fun call l H => argA1 (fun t0 => S130_7 call t0 H) l⟩
/- gantline/tree.of -/
noncomputable def S131_0 (_ : CallFn) (t16 t19 : AV) (H : AHeap) : R :=
  pPick t16 (.bool true) t19 H fun t20 H =>
  some (t20, H)
noncomputable def S131_1 (call : CallFn) (t0 t1 : AV) (H : AHeap) : R :=
  pBox t0 H fun t2 H =>
  pC call 197 [t1, (.str [63])] H fun t9 H =>
  pExt t9 0 H fun t10 H =>
  pExt t9 1 H fun t11 H =>
  onBool t11 (pFa 0 t2 H fun t13 H =>
  ldK .none H t13 fun t14 H =>
  pEql t14 (.str [110, 111, 110, 101]) H fun t15 H =>
  guardA t15 false (ldK (.some 4) H t2 fun t17 H =>
  pC call 131 [t17, t10] H fun t19 H =>
  S131_0 call t15 t19 H) (S131_0 call t15 U H)) (pEql t1 (.str [97, 32, 100, 101, 99, 108, 97, 114, 97, 116, 105, 111, 110]) H fun t23 H =>
  onBool t23 (pN (aBsl 1 3 [(.str [])] [(0, 1, (.str [115, 116, 114, 117, 99, 116])), (1, 1, (.str [103, 108, 111, 98, 97, 108])), (2, 1, (.str [102, 117, 110, 99]))]) H fun t24 H =>
  pFa 0 t2 H fun t25 H =>
  ldK .none H t25 fun t26 H =>
  pC call 191 [t24, t26] H fun t27 H =>
  some (t27, H)) (pEql t1 (.str [97, 32, 116, 121, 112, 101]) H fun t29 H =>
  onBool t29 (pN (aBsl 1 6 [(.str [])] [(0, 1, (.str [105, 110, 116])), (1, 1, (.str [98, 111, 111, 108])), (2, 1, (.str [110, 97, 109, 101, 100])), (3, 1, (.str [108, 105, 115, 116])), (4, 1, (.str [99, 104, 97, 110])), (5, 1, (.str [102, 110]))]) H fun t30 H =>
  pFa 0 t2 H fun t31 H =>
  ldK .none H t31 fun t32 H =>
  pC call 191 [t30, t32] H fun t33 H =>
  some (t33, H)) (pEql t1 (.str [97, 32, 115, 116, 97, 116, 101, 109, 101, 110, 116]) H fun t35 H =>
  onBool t35 (pN (aBsl 1 12 [(.str [])] [(0, 1, (.str [98, 108, 111, 99, 107])), (1, 1, (.str [108, 101, 116])), (2, 1, (.str [115, 101, 116])), (3, 1, (.str [105, 102])), (4, 1, (.str [119, 104, 105, 108, 101])), (5, 1, (.str [114, 101, 116, 117, 114, 110])), (6, 1, (.str [112, 114, 105, 110, 116])), (7, 1, (.str [99, 108, 111, 115, 101])), (8, 1, (.str [103, 111])), (9, 1, (.str [115, 101, 110, 100])), (10, 1, (.str [115, 101, 108, 101, 99, 116])), (11, 1, (.str [100, 111]))]) H fun t36 H =>
  pFa 0 t2 H fun t37 H =>
  ldK .none H t37 fun t38 H =>
  pC call 191 [t36, t38] H fun t39 H =>
  some (t39, H)) (pEql t1 (.str [97, 110, 32, 101, 120, 112, 114, 101, 115, 115, 105, 111, 110]) H fun t41 H =>
  onBool t41 (pN (aBsl 1 15 [(.str [])] [(0, 1, (.str [110, 117, 109, 98, 101, 114])), (1, 1, (.str [116, 114, 117, 101])), (2, 1, (.str [102, 97, 108, 115, 101])), (3, 1, (.str [110, 105, 108])), (4, 1, (.str [110, 97, 109, 101])), (5, 1, (.str [98, 105, 110, 97, 114, 121])), (6, 1, (.str [117, 110, 97, 114, 121])), (7, 1, (.str [99, 97, 108, 108])), (8, 1, (.str [105, 110, 100, 101, 120])), (9, 1, (.str [100, 111, 116])), (10, 1, (.str [110, 101, 119])), (11, 1, (.str [109, 97, 107, 101])), (12, 1, (.str [108, 101, 110])), (13, 1, (.str [114, 101, 99, 118])), (14, 1, (.str [108, 97, 109, 98, 100, 97]))]) H fun t42 H =>
  pFa 0 t2 H fun t43 H =>
  ldK .none H t43 fun t44 H =>
  pC call 191 [t42, t44] H fun t45 H =>
  some (t45, H)) (pEql t1 (.str [97, 32, 99, 97, 115, 101]) H fun t47 H =>
  onBool t47 (pN (aBsl 1 3 [(.str [])] [(0, 1, (.str [111, 110, 114, 101, 99, 118])), (1, 1, (.str [111, 110, 115, 101, 110, 100])), (2, 1, (.str [100, 101, 102, 97, 117, 108, 116]))]) H fun t48 H =>
  pFa 0 t2 H fun t49 H =>
  ldK .none H t49 fun t50 H =>
  pC call 191 [t48, t50] H fun t51 H =>
  some (t51, H)) (pFa 0 t2 H fun t52 H =>
  ldK .none H t52 fun t53 H =>
  pEql t53 t1 H fun t55 H =>
  some (t55, H)))))))
noncomputable def S131 : Ff := ⟨fun call l H => argA2 (fun t0 t1 => S131_1 call t0 t1 H) l⟩
/- (*gantline/check.checker).stmt -/
noncomputable def S132_0 (call : CallFn) (t0 t3 t4 t28 t34 t39 t41 : AV) (H : AHeap) : R :=
  pPick t34 t39 (.bool false) H fun t40 H =>
  pC call 25 [t28, t40, t41] H fun _ H =>
  pFa 1 t3 H fun t44 H =>
  ldK .none H t44 fun t45 H =>
  pIa 4 t4 (.int .i64 (.ofNat 0)) H fun t47 H =>
  ldK (.some 4) H t47 fun t48 H =>
  pC call 70 [t0, t45, t48] H fun _ H =>
  some (.tup [], H)
noncomputable def S132_1 (call : CallFn) (t0 t3 t4 t28 t34 t38 t41 : AV) (H : AHeap) : R :=
  andR (andB (ckV (aLoad (.some 4) H t3) t41) true) (
  guardA t34 true (pO (aUn .not t38) H fun t39 H =>
  S132_0 call t0 t3 t4 t28 t34 t39 t41 H) (S132_0 call t0 t3 t4 t28 t34 U t41 H))
noncomputable def S132_2 (call : CallFn) (t0 t3 t4 t28 t34 t35 t37 t41 : AV) (H : AHeap) : R :=
  guardA t34 true (pC call 201 [t35, t37] H fun t38 H =>
  S132_1 call t0 t3 t4 t28 t34 t38 t41 H) (S132_1 call t0 t3 t4 t28 t34 U t41 H)
noncomputable def S132_3 (call : CallFn) (t0 t3 t4 t28 t34 t35 t36 t41 : AV) (H : AHeap) : R :=
  guardA t34 true (ldK .none H t36 fun t37 H =>
  S132_2 call t0 t3 t4 t28 t34 t35 t37 t41 H) (S132_2 call t0 t3 t4 t28 t34 t35 U t41 H)
noncomputable def S132_4 (call : CallFn) (t0 t3 t4 t28 t34 t35 t41 : AV) (H : AHeap) : R :=
  guardA t34 true (pFa 1 t3 H fun t36 H =>
  S132_3 call t0 t3 t4 t28 t34 t35 t36 t41 H) (S132_3 call t0 t3 t4 t28 t34 t35 U t41 H)
noncomputable def S132_6 (_ : CallFn) (q0 : AV → AV → AV → AV → AHeap → R) (t0 t77 t78 t79 : AV) (H : AHeap) : R :=
  pAdd t79 (.int .i64 (.ofNat 1)) H fun t89 H =>
  q0 t0 t77 t78 t89 H
noncomputable def S132_5 (call : CallFn) (n : Nat) : AV → AV → AV → AV → AHeap → R :=
  Nat.rec (motive := fun _ => AV → AV → AV → AV → AHeap → R) (fun _ _ _ _ _ => none) (fun _ q0 t0 t77 t78 t79 H => pLss t79 t78 H fun t80 H =>
  onBool t80 (pIa 4 t77 t79 H fun t81 H =>
  ldK (.some 4) H t81 fun t82 H =>
  pNew [(.str []), (.str []), (.int .i64 (.ofNat 0)), .nilsl] H fun t9 H =>
  stK 4 H t9 t82 fun _ H =>
  pFa 0 t9 H fun t83 H =>
  ldK .none H t83 fun t84 H =>
  pEql t84 (.str [98, 108, 111, 99, 107]) H fun t85 H =>
  onBool t85 (ldK (.some 4) H t9 fun t87 H =>
  pC call 198 [t0, t87, .nilsl] H fun _ H =>
  S132_6 call q0 t0 t77 t78 t79 H) (S132_6 call q0 t0 t77 t78 t79 H)) (some (.tup [], H))) n
noncomputable def S132_7 (call : CallFn) (t0 t3 t4 t159 t165 t170 : AV) (H : AHeap) : R :=
  pPick t165 (.bool true) t170 H fun t171 H =>
  ldK (.some 4) H t3 fun t172 H =>
  pC call 25 [t159, t171, t172] H fun _ H =>
  pIa 4 t4 (.int .i64 (.ofNat 0)) H fun t175 H =>
  pFa 0 t175 H fun t176 H =>
  ldK .none H t176 fun t177 H =>
  pEql t177 (.str [99, 97, 108, 108]) H fun t178 H =>
  onBool t178 (pIa 4 t4 (.int .i64 (.ofNat 0)) H fun t181 H =>
  ldK (.some 4) H t181 fun t182 H =>
  pC call 204 [t0, t182] H fun _ H =>
  some (.tup [], H)) (pIa 4 t4 (.int .i64 (.ofNat 0)) H fun t186 H =>
  ldK (.some 4) H t186 fun t187 H =>
  pC call 199 [t0, t187] H fun _ H =>
  some (.tup [], H))
noncomputable def S132_8 (call : CallFn) (t0 t3 t4 t159 t165 t169 : AV) (H : AHeap) : R :=
  guardA t165 false (pEql t169 (.str [114, 101, 99, 118]) H fun t170 H =>
  S132_7 call t0 t3 t4 t159 t165 t170 H) (S132_7 call t0 t3 t4 t159 t165 U H)
noncomputable def S132_9 (call : CallFn) (t0 t3 t4 t159 t165 t168 : AV) (H : AHeap) : R :=
  guardA t165 false (ldK .none H t168 fun t169 H =>
  S132_8 call t0 t3 t4 t159 t165 t169 H) (S132_8 call t0 t3 t4 t159 t165 U H)
noncomputable def S132_10 (call : CallFn) (t0 t3 t4 t159 t165 t167 : AV) (H : AHeap) : R :=
  guardA t165 false (pFa 0 t167 H fun t168 H =>
  S132_9 call t0 t3 t4 t159 t165 t168 H) (S132_9 call t0 t3 t4 t159 t165 U H)
noncomputable def S132_11 (call : CallFn) (t0 t3 t4 t159 t165 t166 : AV) (H : AHeap) : R :=
  guardA t165 false (pIa 4 t166 (.int .i64 (.ofNat 0)) H fun t167 H =>
  S132_10 call t0 t3 t4 t159 t165 t167 H) (S132_10 call t0 t3 t4 t159 t165 U H)
noncomputable def S132_12 (call : CallFn) (t0 t3 t4 t15 t68 : AV) (H : AHeap) : R :=
  onBool t68 (pIa 4 t4 (.int .i64 (.ofNat 0)) H fun t73 H =>
  ldK (.some 4) H t73 fun t74 H =>
  pC call 203 [t0, t74, (.str [98, 111, 111, 108])] H fun _ H =>
  pO (aSlice 4 H t4 (.some (.int .i64 (.ofNat 1))) .none .none) H fun t77 H =>
  pO (aLen .sl H t77) H fun t78 H =>
  S132_5 call 1000000 t0 t77 t78 (.int .i64 (.ofNat 0)) H) (pEql t15 (.str [114, 101, 116, 117, 114, 110]) H fun t91 H =>
  onBool t91 (pIa 4 t4 (.int .i64 (.ofNat 0)) H fun t93 H =>
  pFa 0 t93 H fun t94 H =>
  ldK .none H t94 fun t95 H =>
  pEql t95 (.str [110, 111, 110, 101]) H fun t96 H =>
  onBool t96 (pO (aNil t0) H fun t99 H =>
  pFa 8 t99 H fun t100 H =>
  pFa 0 t100 H fun t101 H =>
  ldK .none H t101 fun t102 H =>
  pEql t102 (.str [110, 111, 110, 101]) H fun t103 H =>
  ldK (.some 4) H t3 fun t104 H =>
  pC call 25 [t0, t103, t104] H fun _ H =>
  some (.tup [], H)) (pIa 4 t4 (.int .i64 (.ofNat 0)) H fun t108 H =>
  ldK (.some 4) H t108 fun t109 H =>
  pC call 199 [t0, t109] H fun t110 H =>
  pNew [(.str []), (.str []), (.int .i64 (.ofNat 0)), .nilsl] H fun t10 H =>
  stK 4 H t10 t110 fun _ H =>
  ldK (.some 4) H t10 fun t112 H =>
  pO (aNil t0) H fun t114 H =>
  pFa 8 t114 H fun t115 H =>
  ldK (.some 4) H t115 fun t116 H =>
  ldK (.some 4) H t3 fun t118 H =>
  pC call 200 [t112, t116] H fun t117 H =>
  andR (andB (ckV (aLoad (.some 4) H t3) t118) true) (
  pC call 25 [t0, t117, t118] H fun _ H =>
  some (.tup [], H)))) (pEql t15 (.str [112, 114, 105, 110, 116]) H fun t121 H =>
  onBool t121 (pIa 4 t4 (.int .i64 (.ofNat 0)) H fun t124 H =>
  ldK (.some 4) H t124 fun t125 H =>
  pC call 203 [t0, t125, (.str [105, 110, 116])] H fun _ H =>
  some (.tup [], H)) (pEql t15 (.str [99, 108, 111, 115, 101]) H fun t128 H =>
  onBool t128 (pIa 4 t4 (.int .i64 (.ofNat 0)) H fun t131 H =>
  ldK (.some 4) H t131 fun t132 H =>
  pC call 203 [t0, t132, (.str [99, 104, 97, 110])] H fun _ H =>
  some (.tup [], H)) (pEql t15 (.str [103, 111]) H fun t135 H =>
  onBool t135 (pIa 4 t4 (.int .i64 (.ofNat 0)) H fun t138 H =>
  ldK (.some 4) H t138 fun t139 H =>
  pC call 204 [t0, t139] H fun t140 H =>
  pNew [(.str []), (.str []), (.int .i64 (.ofNat 0)), .nilsl] H fun t11 H =>
  stK 4 H t11 t140 fun _ H =>
  pFa 0 t11 H fun t142 H =>
  ldK .none H t142 fun t143 H =>
  pEql t143 (.str [110, 111, 110, 101]) H fun t144 H =>
  ldK (.some 4) H t3 fun t145 H =>
  pC call 25 [t0, t144, t145] H fun _ H =>
  some (.tup [], H)) (pEql t15 (.str [115, 101, 110, 100]) H fun t148 H =>
  onBool t148 (pC call 205 [t0, t4] H fun _ H =>
  some (.tup [], H)) (pEql t15 (.str [115, 101, 108, 101, 99, 116]) H fun t153 H =>
  onBool t153 (ldK (.some 4) H t3 fun t155 H =>
  pC call 206 [t0, t155] H fun _ H =>
  some (.tup [], H)) (pEql t15 (.str [100, 111]) H fun t158 H =>
  onBool t158 (pIa 4 t4 (.int .i64 (.ofNat 0)) H fun t161 H =>
  pFa 0 t161 H fun t162 H =>
  ldK .none H t162 fun t163 H =>
  pEql t163 (.str [99, 97, 108, 108]) H fun t164 H =>
  guardA t164 false (S132_11 call t0 t3 t4 t0 t164 t4 H) (S132_11 call t0 t3 t4 t0 t164 U H)) (some (.tup [], H)))))))))
noncomputable def S132_13 (call : CallFn) (t0 t1 : AV) (H : AHeap) : R :=
  pBox t1 H fun t3 H =>
  pFa 3 t3 H fun t12 H =>
  ldK .none H t12 fun t13 H =>
  pFa 0 t3 H fun t14 H =>
  ldK .none H t14 fun t15 H =>
  pEql t15 (.str [98, 108, 111, 99, 107]) H fun t17 H =>
  onBool t17 (ldK (.some 4) H t3 fun t19 H =>
  pC call 198 [t0, t19, .nilsl] H fun _ H =>
  some (.tup [], H)) (pEql t15 (.str [108, 101, 116]) H fun t22 H =>
  onBool t22 (pIa 4 t13 (.int .i64 (.ofNat 1)) H fun t25 H =>
  ldK (.some 4) H t25 fun t26 H =>
  pC call 199 [t0, t26] H fun t27 H =>
  pNew [(.str []), (.str []), (.int .i64 (.ofNat 0)), .nilsl] H fun t5 H =>
  stK 4 H t5 t27 fun _ H =>
  ldK (.some 4) H t5 fun t29 H =>
  pIa 4 t13 (.int .i64 (.ofNat 0)) H fun t31 H =>
  ldK (.some 4) H t31 fun t32 H =>
  ldK (.some 4) H t3 fun t41 H =>
  pC call 200 [t29, t32] H fun t33 H =>
  andR (andB (ckV (aLoad (.some 4) H t3) t41) true) (
  guardA t33 true (S132_4 call t0 t3 t13 t0 t33 t0 t41 H) (S132_4 call t0 t3 t13 t0 t33 U t41 H))) (pEql t15 (.str [115, 101, 116]) H fun t51 H =>
  onBool t51 (pIa 4 t13 (.int .i64 (.ofNat 0)) H fun t54 H =>
  ldK (.some 4) H t54 fun t55 H =>
  pC call 202 [t0, t55] H fun t56 H =>
  pNew [(.str []), (.str []), (.int .i64 (.ofNat 0)), .nilsl] H fun t6 H =>
  stK 4 H t6 t56 fun _ H =>
  pIa 4 t13 (.int .i64 (.ofNat 1)) H fun t59 H =>
  ldK (.some 4) H t59 fun t60 H =>
  pC call 199 [t0, t60] H fun t61 H =>
  pNew [(.str []), (.str []), (.int .i64 (.ofNat 0)), .nilsl] H fun t7 H =>
  stK 4 H t7 t61 fun _ H =>
  ldK (.some 4) H t6 fun t63 H =>
  ldK (.some 4) H t7 fun t64 H =>
  ldK (.some 4) H t3 fun t66 H =>
  pC call 200 [t63, t64] H fun t65 H =>
  andR (andB (ckV (aLoad (.some 4) H t3) t66) true) (
  pC call 25 [t0, t65, t66] H fun _ H =>
  some (.tup [], H))) (pEql t15 (.str [105, 102]) H fun t69 H =>
  onBool t69 (S132_12 call t0 t3 t13 t15 t69 H) (pEql t15 (.str [119, 104, 105, 108, 101]) H fun t70 H =>
  S132_12 call t0 t3 t13 t15 t70 H))))
noncomputable def S132 : Ff := ⟨fun call l H => argA2 (fun t0 t1 => S132_13 call t0 t1 H) l⟩
/- (*gantline/lower.builder).stmt -/
noncomputable def S135_0 (call : CallFn) (t0 t1 : AV) (H : AHeap) : R :=
  pBox t1 H fun t3 H =>
  pFa 3 t3 H fun t10 H =>
  ldK .none H t10 fun t11 H =>
  pFa 0 t3 H fun t12 H =>
  ldK .none H t12 fun t13 H =>
  pEql t13 (.str [98, 108, 111, 99, 107]) H fun t15 H =>
  onBool t15 (ldK (.some 4) H t3 fun t17 H =>
  pC call 208 [t0, t17, .nilsl] H fun _ H =>
  some (.tup [], H)) (pEql t13 (.str [108, 101, 116]) H fun t20 H =>
  onBool t20 (pIa 4 t11 (.int .i64 (.ofNat 0)) H fun t23 H =>
  ldK (.some 4) H t23 fun t24 H =>
  pC call 73 [t24] H fun t25 H =>
  pC call 75 [t0, t25] H fun t26 H =>
  pIa 4 t11 (.int .i64 (.ofNat 1)) H fun t29 H =>
  ldK (.some 4) H t29 fun t30 H =>
  pC call 209 [t0, t30, t26] H fun _ H =>
  pFa 1 t3 H fun t34 H =>
  ldK .none H t34 fun t35 H =>
  pIa 4 t11 (.int .i64 (.ofNat 0)) H fun t37 H =>
  ldK (.some 4) H t37 fun t38 H =>
  pC call 74 [t0, t35, t38, t26] H fun _ H =>
  some (.tup [], H)) (pEql t13 (.str [115, 101, 116]) H fun t42 H =>
  onBool t42 (pIa 4 t11 (.int .i64 (.ofNat 0)) H fun t45 H =>
  ldK (.some 4) H t45 fun t46 H =>
  pIa 4 t11 (.int .i64 (.ofNat 1)) H fun t48 H =>
  ldK (.some 4) H t48 fun t49 H =>
  pC call 210 [t0, t46, t49] H fun _ H =>
  some (.tup [], H)) (pEql t13 (.str [105, 102]) H fun t52 H =>
  onBool t52 (pC call 211 [t0, t11] H fun _ H =>
  some (.tup [], H)) (pEql t13 (.str [119, 104, 105, 108, 101]) H fun t57 H =>
  onBool t57 (pC call 212 [t0, t11] H fun _ H =>
  some (.tup [], H)) (pEql t13 (.str [114, 101, 116, 117, 114, 110]) H fun t62 H =>
  onBool t62 (pIa 4 t11 (.int .i64 (.ofNat 0)) H fun t65 H =>
  ldK (.some 4) H t65 fun t66 H =>
  pC call 213 [t0, t66] H fun _ H =>
  some (.tup [], H)) (pEql t13 (.str [112, 114, 105, 110, 116]) H fun t69 H =>
  onBool t69 (pIa 4 t11 (.int .i64 (.ofNat 0)) H fun t72 H =>
  ldK (.some 4) H t72 fun t73 H =>
  pC call 214 [t0, (.int .i64 (.ofNat 42)), t73] H fun _ H =>
  some (.tup [], H)) (pEql t13 (.str [99, 108, 111, 115, 101]) H fun t76 H =>
  onBool t76 (pIa 4 t11 (.int .i64 (.ofNat 0)) H fun t79 H =>
  ldK (.some 4) H t79 fun t80 H =>
  pC call 214 [t0, (.int .i64 (.ofNat 40)), t80] H fun _ H =>
  some (.tup [], H)) (pEql t13 (.str [103, 111]) H fun t83 H =>
  onBool t83 (pIa 4 t11 (.int .i64 (.ofNat 0)) H fun t86 H =>
  ldK (.some 4) H t86 fun t87 H =>
  pC call 215 [t0, t87, (.int .i64 (.negSucc 0)), (.bool true)] H fun _ H =>
  some (.tup [], H)) (pEql t13 (.str [115, 101, 110, 100]) H fun t90 H =>
  onBool t90 (pIa 4 t11 (.int .i64 (.ofNat 0)) H fun t94 H =>
  ldK (.some 4) H t94 fun t95 H =>
  pC call 216 [t0, t95] H fun t96 H =>
  pExt t96 0 H fun t97 H =>
  pExt t96 1 H fun t98 H =>
  pIa 4 t11 (.int .i64 (.ofNat 1)) H fun t102 H =>
  ldK (.some 4) H t102 fun t103 H =>
  pC call 216 [t0, t103] H fun t104 H =>
  pExt t104 0 H fun t105 H =>
  pExt t104 1 H fun t106 H =>
  pO (someAgg (aFill [(.int .i64 (.ofNat 0)), (.int .i64 (.ofNat 0)), (.int .i64 (.ofNat 0)), (.int .i64 (.ofNat 0)), (.int .i64 (.ofNat 0))] [(0, 1, (.int .i64 (.ofNat 38))), (1, 1, t97), (2, 1, t105)])) H fun t110 H =>
  pC call 78 [t0, t110] H fun _ H =>
  pN (aBsl 1 2 [(.int .i64 (.ofNat 0))] [(0, 1, t98), (1, 1, t106)]) H fun t115 H =>
  pC call 217 [t0, t115] H fun _ H =>
  some (.tup [], H)) (pEql t13 (.str [115, 101, 108, 101, 99, 116]) H fun t118 H =>
  onBool t118 (ldK (.some 4) H t3 fun t120 H =>
  pC call 218 [t0, t120] H fun _ H =>
  some (.tup [], H)) (pEql t13 (.str [100, 111]) H fun t123 H =>
  onBool t123 (pIa 4 t11 (.int .i64 (.ofNat 0)) H fun t126 H =>
  ldK (.some 4) H t126 fun t127 H =>
  pC call 219 [t0, t127] H fun _ H =>
  some (.tup [], H)) (some (.tup [], H)))))))))))))
noncomputable def S135 : Ff := ⟨fun call l H => argA2 (fun t0 t1 => S135_0 call t0 t1 H) l⟩
/- gantline/emit.targets -/
noncomputable def S136_0 (_ : CallFn) (n : Nat) : AV → AV → AV → AV → AHeap → R :=
  Nat.rec (motive := fun _ => AV → AV → AV → AV → AHeap → R) (fun _ _ _ _ _ => none) (fun _ q0 t5 t32 t33 t34 H => pLss t34 t33 H fun t35 H =>
  onBool t35 (pIa 4 t32 t34 H fun t36 H =>
  ldK (.some 4) H t36 fun t37 H =>
  pNew [(.int .i64 (.ofNat 0)), (.int .i64 (.ofNat 0)), (.int .i64 (.ofNat 0)), (.int .i64 (.ofNat 0))] H fun t9 H =>
  stK 4 H t9 t37 fun _ H =>
  pFa 3 t9 H fun t39 H =>
  ldK .none H t39 fun t40 H =>
  pN (aBsl 1 1 [(.int .i64 (.ofNat 0))] [(0, 1, t40)]) H fun t41 H =>
  pW (aApp 1 8 H t5 t41) fun t42 H =>
  pAdd t34 (.int .i64 (.ofNat 1)) H fun t43 H =>
  q0 t42 t32 t33 t43 H) (some (t5, H))) n
noncomputable def S136_1 (call : CallFn) (t0 t1 : AV) (H : AHeap) : R :=
  pBox t0 H fun t2 H =>
  pBox t1 H fun t3 H =>
  pFa 0 t3 H fun t10 H =>
  ldK .none H t10 fun t11 H =>
  pEql t11 (.int .i64 (.ofNat 18)) H fun t13 H =>
  onBool t13 (pFa 1 t3 H fun t14 H =>
  ldK .none H t14 fun t15 H =>
  pN (aBsl 1 1 [(.int .i64 (.ofNat 0))] [(0, 1, t15)]) H fun t16 H =>
  some (t16, H)) (pEql t11 (.int .i64 (.ofNat 19)) H fun t18 H =>
  onBool t18 (pFa 2 t3 H fun t19 H =>
  ldK .none H t19 fun t20 H =>
  pN (aBsl 1 1 [(.int .i64 (.ofNat 0))] [(0, 1, t20)]) H fun t21 H =>
  some (t21, H)) (ldK (.some 6) H t2 fun t23 H =>
  ldK (.some 5) H t3 fun t24 H =>
  pC call 83 [t23, t24] H fun t25 H =>
  pExt t25 0 H fun t26 H =>
  pExt t25 1 H fun t27 H =>
  pFa 3 t2 H fun t28 H =>
  ldK .none H t28 fun t29 H =>
  pO (aSlice 4 H t29 (.some t26) (.some t27) .none) H fun t32 H =>
  pO (aLen .sl H t32) H fun t33 H =>
  S136_0 call 1000000 .nilsl t32 t33 (.int .i64 (.ofNat 0)) H))
noncomputable def S136 : Ff := ⟨fun call l H => argA2 (fun t0 t1 => S136_1 call t0 t1 H) l⟩
/- gantline/live.Sets -/
noncomputable def S137_0 (_ : CallFn) (t5 : AV) (H : AHeap) : R :=
  ldK .none H t5 fun t52 H =>
  some (t52, H)
noncomputable def S137_3 (_ : CallFn) (q1 : AV → AV → AV → AV → AV → AV → AHeap → R) (t2 t3 t5 t6 t7 t8 : AV) (H : AHeap) : R :=
  pSub t8 (.int .i64 (.ofNat 1)) H fun t24 H =>
  q1 t2 t3 t5 t6 t7 t24 H
noncomputable def S137_2 (call : CallFn) (q0 : AV → AV → AV → AV → AV → AHeap → R) (n : Nat) : AV → AV → AV → AV → AV → AV → AHeap → R :=
  Nat.rec (motive := fun _ => AV → AV → AV → AV → AV → AV → AHeap → R) (fun _ _ _ _ _ _ _ => none) (fun _ q1 t2 t3 t5 t6 t7 t8 H => pGeq t8 (.int .i64 (.ofNat 0)) H fun t22 H =>
  onBool t22 (pFa 5 t3 H fun t25 H =>
  ldK .none H t25 fun t26 H =>
  pIa 5 t26 t8 H fun t28 H =>
  ldK (.some 5) H t28 fun t29 H =>
  pNew [(.int .i64 (.ofNat 0)), (.int .i64 (.ofNat 0)), (.int .i64 (.ofNat 0)), (.int .i64 (.ofNat 0)), (.int .i64 (.ofNat 0))] H fun t9 H =>
  stK 5 H t9 t29 fun _ H =>
  ldK (.some 6) H t2 fun t30 H =>
  ldK (.some 5) H t9 fun t31 H =>
  ldK (.some 5) H t9 fun t37 H =>
  pC call 223 [t30, t31] H fun t32 H =>
  andR (andB (ckV (aLoad (.some 5) H t9) t37) true) (
  pC call 222 [t32] H fun t33 H =>
  andR (andB (ckV (aLoad (.some 5) H t9) t37) true) (
  pV call t6 [t8] H fun t36 H =>
  andR (andB (ckV (aLoad (.some 5) H t9) t37) true) (
  pC call 224 [t37] H fun t38 H =>
  pC call 222 [t38] H fun t39 H =>
  pAndN t36 t39 H fun t40 H =>
  pOr t33 t40 H fun t41 H =>
  ldK .none H t5 fun t43 H =>
  pIa 1 t43 t8 H fun t45 H =>
  ldK .none H t45 fun t46 H =>
  pNeq t41 t46 H fun t47 H =>
  onBool t47 (ldK .none H t5 fun t48 H =>
  pIa 1 t48 t8 H fun t51 H =>
  stK 1 H t51 t41 fun _ H =>
  S137_3 call q1 t2 t3 t5 t6 (.bool true) t8 H) (S137_3 call q1 t2 t3 t5 t6 t7 t8 H))))) (q0 t2 t3 t5 t6 t7 H)) n
noncomputable def S137_1 (call : CallFn) (n : Nat) : AV → AV → AV → AV → AV → AHeap → R :=
  Nat.rec (motive := fun _ => AV → AV → AV → AV → AV → AHeap → R) (fun _ _ _ _ _ _ => none) (fun _ q0 t2 t3 t5 t6 t7 H => onBool t7 (pFa 5 t3 H fun t17 H =>
  ldK .none H t17 fun t18 H =>
  pO (aLen .sl H t18) H fun t19 H =>
  pSub t19 (.int .i64 (.ofNat 1)) H fun t20 H =>
  S137_2 call q0 1000000 t2 t3 t5 t6 (.bool false) t20 H) (S137_0 call t5 H)) n
noncomputable def S137_4 (call : CallFn) (t0 t1 : AV) (H : AHeap) : R :=
  pBox t0 H fun t2 H =>
  pBox t1 H fun t3 H =>
  pFa 5 t3 H fun t11 H =>
  ldK .none H t11 fun t12 H =>
  pO (aLen .sl H t12) H fun t13 H =>
  pN (aMksl 1 8 [(.int .u64 (.ofNat 0))] t13 t13) H fun t14 H =>
  pNew [.nilsl] H fun t5 H =>
  stK 1 H t5 t14 fun _ H =>
  S137_1 call 1000000 t2 t3 t5 (.fn 220 [] [t3, t2, t5]) (.bool true) H
noncomputable def S137 : Ff := ⟨fun call l H => argA2 (fun t0 t1 => S137_4 call t0 t1 H) l⟩
end Go.Proofs.YtbjjgndgofakoaaGreatDoor
