/- Plain functions, printed: part 0. -/
import Derived.Test.YtdccenbljfanpaaGreatDoorAdE
import Derived.Test.YtdccenbljfanpaaGreatDoorProg
import Derived.Test.YtdccenbljfanpaaGreatDoorVN
import Derived.KernelRfl
namespace Go.Proofs.YtdccenbljfanpaaGreatDoor
open Go.Ab
set_option maxRecDepth 100000
/- gantline/gantlinelaw26.TraceKnown -/
noncomputable def S_gantlinelaw26_TraceKnown_0 (_ : CallFn) (t48 t52 : AV) (H : AHeap) : R :=
  pPick t48 t52 (.bool false) H fun t53 H =>
  some (t53, H)
noncomputable def S_gantlinelaw26_TraceKnown_1 (call : CallFn) (t43 t46 : AV) (H : AHeap) : R :=
  pPick t43 t46 (.bool false) H fun t47 H =>
  guardA t47 true (pO (someAgg (aFill [.nilsl, (.int .i64 (.ofNat 0)), (.int .i64 (.ofNat 0)), (.int .i64 (.ofNat 0)), (.int .i64 (.ofNat 0)), (.int .i64 (.ofNat 0)), .nilsl] [])) H fun t49 H =>
  pC call n_trace_Order [t49] H fun t50 H =>
  pO (aLen .sl H t50) H fun t51 H =>
  pEql t51 (.int .i64 (.ofNat 0)) H fun t52 H =>
  S_gantlinelaw26_TraceKnown_0 call t47 t52 H) (S_gantlinelaw26_TraceKnown_0 call t47 U H)
noncomputable def S_gantlinelaw26_TraceKnown_2 (call : CallFn) (t37 t41 : AV) (H : AHeap) : R :=
  pPick t37 t41 (.bool false) H fun t42 H =>
  guardA t42 true (pO (someAgg (aFill [.nilsl, (.int .i64 (.ofNat 0)), (.int .i64 (.ofNat 0)), (.int .i64 (.ofNat 0)), (.int .i64 (.ofNat 0)), (.int .i64 (.ofNat 0)), .nilsl] [])) H fun t44 H =>
  pC call n_trace_Show [t44] H fun t45 H =>
  pEql t45 (.str [101, 110, 100, 32, 48, 32, 48, 10]) H fun t46 H =>
  S_gantlinelaw26_TraceKnown_1 call t42 t46 H) (S_gantlinelaw26_TraceKnown_1 call t42 U H)
noncomputable def S_gantlinelaw26_TraceKnown_3 (call : CallFn) (t4 t33 t35 : AV) (H : AHeap) : R :=
  pPick t33 t35 (.bool false) H fun t36 H =>
  guardA t36 true (pFa 0 t4 H fun t38 H =>
  ldK .none H t38 fun t39 H =>
  pO (aLen .sl H t39) H fun t40 H =>
  pEql t40 (.int .i64 (.ofNat 0)) H fun t41 H =>
  S_gantlinelaw26_TraceKnown_2 call t36 t41 H) (S_gantlinelaw26_TraceKnown_2 call t36 U H)
noncomputable def S_gantlinelaw26_TraceKnown_4 (call : CallFn) (t4 t5 t29 t31 : AV) (H : AHeap) : R :=
  pPick t29 t31 (.bool false) H fun t32 H =>
  guardA t32 true (pEql t5 (.int .i64 (.ofNat 0)) H fun t35 H =>
  S_gantlinelaw26_TraceKnown_3 call t4 t32 t35 H) (S_gantlinelaw26_TraceKnown_3 call t4 t32 U H)
noncomputable def S_gantlinelaw26_TraceKnown_5 (call : CallFn) (t4 t5 t6 t25 t27 : AV) (H : AHeap) : R :=
  pPick t25 t27 (.bool false) H fun t28 H =>
  guardA t28 true (pEql t6 (.int .i64 (.ofNat 0)) H fun t31 H =>
  S_gantlinelaw26_TraceKnown_4 call t4 t5 t28 t31 H) (S_gantlinelaw26_TraceKnown_4 call t4 t5 t28 U H)
noncomputable def S_gantlinelaw26_TraceKnown_6 (call : CallFn) (H : AHeap) : R :=
  pC call n_gantlinelaw26_awake [] H fun t7 H =>
  pO (aUn .not t7) H fun t8 H =>
  onBool t8 (some ((.bool false), H)) (pO (someAgg (aFill [.nilsl, .nilsl, .nilsl, .nilsl, .nilsl, (.int .i64 (.ofNat 0))] [])) H fun t10 H =>
  pC call n_trace_Again [t10, (.int .i64 (.ofNat 8)), .nilsl] H fun t11 H =>
  pExt t11 0 H fun t12 H =>
  pExt t11 1 H fun t13 H =>
  pExt t11 2 H fun t14 H =>
  pNew [.nilsl, (.int .i64 (.ofNat 0)), (.int .i64 (.ofNat 0)), (.int .i64 (.ofNat 0)), (.int .i64 (.ofNat 0)), (.int .i64 (.ofNat 0)), .nilsl] H fun t1 H =>
  stK 7 H t1 t12 fun _ H =>
  pC call n_gantlinelaw26_prints [] H fun t16 H =>
  pO (someAgg (aFill [(.int .i64 (.ofNat 0)), (.int .i64 (.ofNat 0)), (.int .i64 (.ofNat 0)), (.int .i64 (.ofNat 0)), (.int .i64 (.ofNat 0)), (.int .i64 (.ofNat 0)), (.int .i64 (.ofNat 0))] [(0, 1, (.int .i64 (.ofNat 2))), (1, 1, (.int .i64 (.ofNat 42)))])) H fun t17 H =>
  pN (aBsl 7 1 [(.int .i64 (.ofNat 0)), (.int .i64 (.ofNat 0)), (.int .i64 (.ofNat 0)), (.int .i64 (.ofNat 0)), (.int .i64 (.ofNat 0)), (.int .i64 (.ofNat 0)), (.int .i64 (.ofNat 0))] [(0, 7, t17)]) H fun t18 H =>
  pC call n_trace_Again [t16, (.int .i64 (.ofNat 8)), t18] H fun t19 H =>
  pExt t19 0 H fun t20 H =>
  pExt t19 1 H fun t21 H =>
  pExt t19 2 H fun t22 H =>
  pNew [.nilsl, (.int .i64 (.ofNat 0)), (.int .i64 (.ofNat 0)), (.int .i64 (.ofNat 0)), (.int .i64 (.ofNat 0)), (.int .i64 (.ofNat 0)), .nilsl] H fun t4 H =>
  stK 7 H t4 t20 fun _ H =>
  pEql t14 (.int .i64 (.ofNat 8)) H fun t24 H =>
  guardA t24 true (pEql t13 (.int .i64 (.ofNat 0)) H fun t27 H =>
  S_gantlinelaw26_TraceKnown_5 call t4 t21 t22 t24 t27 H) (S_gantlinelaw26_TraceKnown_5 call t4 t21 t22 t24 U H))
noncomputable def S_gantlinelaw26_TraceKnown : Ff := ⟨fun call l H => argA0 (S_gantlinelaw26_TraceKnown_6 call H) l⟩
/- gantline/gantlinelaw26.TraceShows -/
noncomputable def S_gantlinelaw26_TraceShows_0 (call : CallFn) (t1 t2 t7 t8 : AV) (H : AHeap) : R :=
  ldK (.some 7) H t7 fun t60 H =>
  pC call n_trace_Show [t60] H fun t61 H =>
  pAdd t8 (.str [101, 110, 100, 32]) H fun t63 H =>
  pC call n_gantlineref9_Text [t1] H fun t65 H =>
  pAdd t63 t65 H fun t66 H =>
  pAdd t66 (.str [32]) H fun t67 H =>
  pC call n_gantlineref9_Text [t2] H fun t69 H =>
  pAdd t67 t69 H fun t70 H =>
  pAdd t70 (.str [10]) H fun t71 H =>
  pEql t61 t71 H fun t72 H =>
  some (t72, H)
noncomputable def S_gantlinelaw26_TraceShows_1 (call : CallFn) (n : Nat) : AV → AV → AV → AV → AV → AV → AV → AHeap → R :=
  Nat.rec (motive := fun _ => AV → AV → AV → AV → AV → AV → AV → AHeap → R) (fun _ _ _ _ _ _ _ _ => none) (fun _ q0 t0 t1 t2 t7 t8 t9 t10 H => pO (aLen .sl H t0) H fun t29 H =>
  pLss t10 t29 H fun t30 H =>
  onBool t30 (pIa 7 t0 t10 H fun t36 H =>
  pFa 0 t36 H fun t37 H =>
  ldK .none H t37 fun t38 H =>
  pIa 7 t0 t10 H fun t44 H =>
  pFa 1 t44 H fun t45 H =>
  ldK .none H t45 fun t46 H =>
  pC call n_gantlineref9_Text [t38] H fun t39 H =>
  andR (andB (ckV (aLoad .none H t45) t46) true) (
  pAdd t8 t39 H fun t40 H =>
  pAdd t40 (.str [32]) H fun t41 H =>
  pC call n_gantlineref9_Name [t46] H fun t47 H =>
  pAdd t41 t47 H fun t48 H =>
  pAdd t48 (.str [10]) H fun t49 H =>
  pIa 1 t9 t10 H fun t52 H =>
  ldK .none H t52 fun t53 H =>
  pIa 7 t0 t10 H fun t56 H =>
  pFa 0 t56 H fun t57 H =>
  ldK .none H t57 fun t58 H =>
  pNeq t53 t58 H fun t59 H =>
  onBool t59 (some ((.bool false), H)) (pAdd t10 (.int .i64 (.ofNat 1)) H fun t32 H =>
  q0 t0 t1 t2 t7 t49 t9 t32 H))) (S_gantlinelaw26_TraceShows_0 call t1 t2 t7 t8 H)) n
noncomputable def S_gantlinelaw26_TraceShows_2 (call : CallFn) (t0 t1 t2 : AV) (H : AHeap) : R :=
  pC call n_gantlinelaw26_awake [] H fun t11 H =>
  pO (aUn .not t11) H fun t12 H =>
  onBool t12 (some ((.bool false), H)) (pO (aLen .sl H t0) H fun t14 H =>
  pGtr t14 (.int .i64 (.ofNat 100)) H fun t15 H =>
  onBool t15 (some ((.bool true), H)) (pO (someAgg (aFill [.nilsl, (.int .i64 (.ofNat 0)), (.int .i64 (.ofNat 0)), (.int .i64 (.ofNat 0)), (.int .i64 (.ofNat 0)), (.int .i64 (.ofNat 0)), .nilsl] [(6, 1, t0), (1, 1, t1), (2, 1, t2)])) H fun t19 H =>
  pNew [.nilsl, (.int .i64 (.ofNat 0)), (.int .i64 (.ofNat 0)), (.int .i64 (.ofNat 0)), (.int .i64 (.ofNat 0)), (.int .i64 (.ofNat 0)), .nilsl] H fun t7 H =>
  stK 7 H t7 t19 fun _ H =>
  ldK (.some 7) H t7 fun t20 H =>
  pC call n_trace_Order [t20] H fun t21 H =>
  pO (aLen .sl H t21) H fun t23 H =>
  pO (aLen .sl H t0) H fun t25 H =>
  pNeq t23 t25 H fun t26 H =>
  onBool t26 (some ((.bool false), H)) (S_gantlinelaw26_TraceShows_1 call 1000000 t0 t1 t2 t7 (.str []) t21 (.int .i64 (.ofNat 0)) H)))
noncomputable def S_gantlinelaw26_TraceShows : Ff := ⟨fun call l H => argA3 (fun t0 t1 t2 => S_gantlinelaw26_TraceShows_2 call t0 t1 t2 H) l⟩
/- gantline/gantlinelaw26.awake -/
noncomputable def S_gantlinelaw26_awake_0 (_ : CallFn) (t43 t46 : AV) (H : AHeap) : R :=
  pPick t43 t46 (.bool false) H fun t47 H =>
  some (t47, H)
noncomputable def S_gantlinelaw26_awake_1 (call : CallFn) (t1 t38 t41 : AV) (H : AHeap) : R :=
  pPick t38 t41 (.bool false) H fun t42 H =>
  guardA t42 true (ldK (.some 7) H t1 fun t44 H =>
  pC call n_trace_Show [t44] H fun t45 H =>
  pEql t45 (.str [49, 32, 112, 114, 105, 110, 116, 10, 49, 32, 114, 101, 116, 117, 114, 110, 10, 101, 110, 100, 32, 49, 32, 48, 10]) H fun t46 H =>
  S_gantlinelaw26_awake_0 call t42 t46 H) (S_gantlinelaw26_awake_0 call t42 U H)
noncomputable def S_gantlinelaw26_awake_2 (call : CallFn) (t1 t3 t32 t36 : AV) (H : AHeap) : R :=
  pPick t32 t36 (.bool false) H fun t37 H =>
  guardA t37 true (pFa 1 t3 H fun t39 H =>
  ldK .none H t39 fun t40 H =>
  pEql t40 (.int .i64 (.ofNat 1)) H fun t41 H =>
  S_gantlinelaw26_awake_1 call t1 t37 t41 H) (S_gantlinelaw26_awake_1 call t1 t37 U H)
noncomputable def S_gantlinelaw26_awake_3 (call : CallFn) (t1 t3 t28 t30 : AV) (H : AHeap) : R :=
  pPick t28 t30 (.bool false) H fun t31 H =>
  guardA t31 true (pFa 0 t3 H fun t33 H =>
  ldK .none H t33 fun t34 H =>
  pN (aBsl 1 1 [(.int .i64 (.ofNat 0))] [(0, 1, (.int .i64 (.ofNat 5)))]) H fun t35 H =>
  pC call n_gantlineref17_Nums [t34, t35] H fun t36 H =>
  S_gantlinelaw26_awake_2 call t1 t3 t31 t36 H) (S_gantlinelaw26_awake_2 call t1 t3 t31 U H)
noncomputable def S_gantlinelaw26_awake_4 (call : CallFn) (t1 t3 t4 t24 t26 : AV) (H : AHeap) : R :=
  pPick t24 t26 (.bool false) H fun t27 H =>
  guardA t27 true (pEql t4 (.int .i64 (.ofNat 2)) H fun t30 H =>
  S_gantlinelaw26_awake_3 call t1 t3 t27 t30 H) (S_gantlinelaw26_awake_3 call t1 t3 t27 U H)
noncomputable def S_gantlinelaw26_awake_5 (call : CallFn) (H : AHeap) : R :=
  pC call n_gantlinelaw26_prints [] H fun t7 H =>
  pN (aBsl 1 3 [(.int .i64 (.ofNat 0))] [(0, 1, (.int .i64 (.ofNat 0))), (1, 1, (.int .i64 (.ofNat 0))), (2, 1, (.int .i64 (.ofNat 0)))]) H fun t8 H =>
  pC call n_run_Run [t7, (.int .i64 (.ofNat 8)), t8] H fun t9 H =>
  pExt t9 0 H fun t10 H =>
  pExt t9 1 H fun _ H =>
  pNew [.nilsl, (.int .i64 (.ofNat 0)), (.int .i64 (.ofNat 0)), (.int .i64 (.ofNat 0)), (.int .i64 (.ofNat 0)), (.int .i64 (.ofNat 0)), .nilsl] H fun t1 H =>
  stK 7 H t1 t10 fun _ H =>
  pFa 6 t1 H fun t14 H =>
  ldK .none H t14 fun t15 H =>
  pNew [.nilsl, (.int .i64 (.ofNat 0)), (.int .i64 (.ofNat 0)), (.int .i64 (.ofNat 0)), (.int .i64 (.ofNat 0)), (.int .i64 (.ofNat 0)), .nilsl] H fun t3 H =>
  pC call n_gantlinelaw26_prints [] H fun t13 H =>
  andR (andB (ckV (aLoad .none H t14) t15) true) (
  pC call n_trace_Again [t13, (.int .i64 (.ofNat 8)), t15] H fun t16 H =>
  pExt t16 0 H fun t17 H =>
  pExt t16 1 H fun t18 H =>
  pExt t16 2 H fun t19 H =>
  stK 7 H t3 t17 fun _ H =>
  ldK (.some 7) H t1 fun t20 H =>
  pC call n_trace_Order [t20] H fun t21 H =>
  pN (aBsl 1 2 [(.int .i64 (.ofNat 0))] [(0, 1, (.int .i64 (.ofNat 1))), (1, 1, (.int .i64 (.ofNat 1)))]) H fun t22 H =>
  pC call n_gantlineref17_Ints [t21, t22] H fun t23 H =>
  guardA t23 true (pEql t19 (.int .i64 (.ofNat 0)) H fun t26 H =>
  S_gantlinelaw26_awake_4 call t1 t3 t18 t23 t26 H) (S_gantlinelaw26_awake_4 call t1 t3 t18 t23 U H))
noncomputable def S_gantlinelaw26_awake : Ff := ⟨fun call l H => argA0 (S_gantlinelaw26_awake_5 call H) l⟩
/- gantline/trace.Again -/
noncomputable def S_trace_Again_0 (call : CallFn) (t6 t9 t11 t12 : AV) (H : AHeap) : R :=
  pO (aNil t11) H fun t42 H =>
  pFa 1 t42 H fun t43 H =>
  ldK .none H t43 fun t44 H =>
  pC call n_run_Told [t9, t44] H fun t45 H =>
  stK 7 H t6 t45 fun _ H =>
  ob (allM (fun o => o) [aLoad (.some 7) H t6, some t12, some (.int .i64 (.ofNat 0))]) fun vs => some (resV vs, H)
noncomputable def S_trace_Again_2 (call : CallFn) (q0 : AV → AV → AV → AV → AV → AHeap → R) (t2 t6 t9 t11 t12 t30 t36 : AV) (H : AHeap) : R :=
  pPick t30 t36 (.bool false) H fun t37 H =>
  onBool t37 (pAdd t12 (.int .i64 (.ofNat 1)) H fun t39 H =>
  q0 t2 t6 t9 t11 t39 H) (S_trace_Again_0 call t6 t9 t11 t12 H)
noncomputable def S_trace_Again_1 (call : CallFn) (n : Nat) : AV → AV → AV → AV → AV → AHeap → R :=
  Nat.rec (motive := fun _ => AV → AV → AV → AV → AV → AHeap → R) (fun _ _ _ _ _ _ => none) (fun _ q0 t2 t6 t9 t11 t12 H => pO (aLen .sl H t2) H fun t28 H =>
  pLss t12 t28 H fun t29 H =>
  guardA t29 true (pIa 7 t2 t12 H fun t34 H =>
  ldK (.some 7) H t34 fun t35 H =>
  pC call n_trace_player_act [t11, t35] H fun t36 H =>
  S_trace_Again_2 call q0 t2 t6 t9 t11 t12 t29 t36 H) (S_trace_Again_2 call q0 t2 t6 t9 t11 t12 t29 U H)) n
noncomputable def S_trace_Again_3 (call : CallFn) (t0 t1 t2 : AV) (H : AHeap) : R :=
  pBox t0 H fun t3 H =>
  pNew [.nilsl, (.int .i64 (.ofNat 0)), (.int .i64 (.ofNat 0)), (.int .i64 (.ofNat 0)), (.int .i64 (.ofNat 0)), (.int .i64 (.ofNat 0)), .nilsl] H fun t6 H =>
  ldK (.some 6) H t3 fun t14 H =>
  pC call n_vm_New [t14, t1] H fun t16 H =>
  pExt t16 0 H fun t17 H =>
  pExt t16 1 H fun t18 H =>
  pNeq t18 (.int .i64 (.ofNat 0)) H fun t20 H =>
  onBool t20 (pO (someAgg (aFill [.nilsl, (.int .i64 (.ofNat 0)), (.int .i64 (.ofNat 0)), (.int .i64 (.ofNat 0)), (.int .i64 (.ofNat 0)), (.int .i64 (.ofNat 0)), .nilsl] [])) H fun t21 H =>
  stK 7 H t6 t21 fun _ H =>
  ob (allM (fun o => o) [aLoad (.some 7) H t6, some (.int .i64 (.ofNat 0)), some t18]) fun vs => some (resV vs, H)) (pO (someAgg (aFill [.nilp, (.int .i64 (.ofNat 0))] [(0, 1, t17)])) H fun t24 H =>
  pBox t24 H fun t25 H =>
  S_trace_Again_1 call 1000000 t2 t6 t17 t25 (.int .i64 (.ofNat 0)) H)
noncomputable def S_trace_Again : Ff := ⟨fun call l H => argA3 (fun t0 t1 t2 => S_trace_Again_3 call t0 t1 t2 H) l⟩
/- gantline/gantlinelaw26.prints -/
noncomputable def S_gantlinelaw26_prints_0 (_ : CallFn) (H : AHeap) : R :=
  pNew [.nilsl, .nilsl, .nilsl, .nilsl, .nilsl, (.int .i64 (.ofNat 0))] H fun t0 H =>
  pN (aBsl 1 1 [(.int .i64 (.ofNat 0))] [(0, 1, (.int .i64 (.ofNat 5)))]) H fun t1 H =>
  pN (aBsl 1 1 [(.bool false)] [(0, 1, (.bool false))]) H fun t2 H =>
  pO (someAgg (aFill [(.int .i64 (.ofNat 0)), (.int .i64 (.ofNat 0)), (.int .i64 (.ofNat 0)), (.int .i64 (.ofNat 0)), (.int .i64 (.ofNat 0))] [(0, 1, (.int .i64 (.ofNat 0)))])) H fun t3 H =>
  pO (someAgg (aFill [(.int .i64 (.ofNat 0)), (.int .i64 (.ofNat 0)), (.int .i64 (.ofNat 0)), (.int .i64 (.ofNat 0)), (.int .i64 (.ofNat 0))] [(0, 1, (.int .i64 (.ofNat 42)))])) H fun t4 H =>
  pO (someAgg (aFill [(.int .i64 (.ofNat 0)), (.int .i64 (.ofNat 0)), (.int .i64 (.ofNat 0)), (.int .i64 (.ofNat 0)), (.int .i64 (.ofNat 0))] [(0, 1, (.int .i64 (.ofNat 22))), (1, 1, (.int .i64 (.negSucc 0)))])) H fun t5 H =>
  pN (aBsl 5 3 [(.int .i64 (.ofNat 0)), (.int .i64 (.ofNat 0)), (.int .i64 (.ofNat 0)), (.int .i64 (.ofNat 0)), (.int .i64 (.ofNat 0))] [(0, 5, t3), (5, 5, t4), (10, 5, t5)]) H fun t6 H =>
  pN (aBsl 1 3 [(.int .u64 (.ofNat 0))] [(0, 1, (.int .u64 (.ofNat 0))), (1, 1, (.int .u64 (.ofNat 0))), (2, 1, (.int .u64 (.ofNat 0)))]) H fun t7 H =>
  pO (someAgg (aFill [(.int .i64 (.ofNat 0)), (.int .i64 (.ofNat 0)), (.int .i64 (.ofNat 0)), (.int .i64 (.ofNat 0)), .nilsl, .nilsl, .nilsl] [(2, 1, (.int .i64 (.ofNat 1))), (4, 1, t2), (5, 1, t6), (6, 1, t7)])) H fun t8 H =>
  pN (aBsl 7 1 [(.int .i64 (.ofNat 0)), (.int .i64 (.ofNat 0)), (.int .i64 (.ofNat 0)), (.int .i64 (.ofNat 0)), .nilsl, .nilsl, .nilsl] [(0, 7, t8)]) H fun t9 H =>
  pO (someAgg (aFill [.nilsl, .nilsl, .nilsl, .nilsl, .nilsl, (.int .i64 (.ofNat 0))] [(2, 1, t1), (4, 1, t9)])) H fun t10 H =>
  stK 6 H t0 t10 fun _ H =>
  ob (allM (fun o => o) [aLoad (.some 6) H t0]) fun vs => some (resV vs, H)
noncomputable def S_gantlinelaw26_prints : Ff := ⟨fun call l H => argA0 (S_gantlinelaw26_prints_0 call H) l⟩
/- gantline/trace.Show -/
noncomputable def S_trace_Show_0 (call : CallFn) (t1 t3 : AV) (H : AHeap) : R :=
  pFa 1 t1 H fun t24 H =>
  ldK .none H t24 fun t25 H =>
  pFa 2 t1 H fun t29 H =>
  ldK .none H t29 fun t30 H =>
  pC call n_strconv_Itoa [t25] H fun t26 H =>
  andR (andB (ckV (aLoad .none H t29) t30) true) (
  pAdd (.str [101, 110, 100, 32]) t26 H fun t27 H =>
  pAdd t27 (.str [32]) H fun t28 H =>
  pC call n_strconv_Itoa [t30] H fun t31 H =>
  pAdd t28 t31 H fun t32 H =>
  pAdd t32 (.str [10]) H fun t33 H =>
  pC call n_strings_Builder_WriteString [t3, t33] H fun _ H =>
  pC call n_strings_Builder_String [t3] H fun t35 H =>
  some (t35, H))
noncomputable def S_trace_Show_1 (call : CallFn) (n : Nat) : AV → AV → AV → AV → AV → AHeap → R :=
  Nat.rec (motive := fun _ => AV → AV → AV → AV → AV → AHeap → R) (fun _ _ _ _ _ _ => none) (fun _ q0 t1 t3 t7 t8 t9 H => pLss t9 t8 H fun t10 H =>
  onBool t10 (pIa 7 t7 t9 H fun t11 H =>
  ldK (.some 7) H t11 fun t12 H =>
  pNew [(.int .i64 (.ofNat 0)), (.int .i64 (.ofNat 0)), (.int .i64 (.ofNat 0)), (.int .i64 (.ofNat 0)), (.int .i64 (.ofNat 0)), (.int .i64 (.ofNat 0)), (.int .i64 (.ofNat 0))] H fun t5 H =>
  stK 7 H t5 t12 fun _ H =>
  pFa 0 t5 H fun t13 H =>
  ldK .none H t13 fun t14 H =>
  pFa 1 t5 H fun t17 H =>
  ldK .none H t17 fun t18 H =>
  pC call n_strconv_Itoa [t14] H fun t15 H =>
  andR (andB (ckV (aLoad .none H t17) t18) true) (
  pAdd t15 (.str [32]) H fun t16 H =>
  pC call n_code_Name [t18] H fun t19 H =>
  pAdd t16 t19 H fun t20 H =>
  pAdd t20 (.str [10]) H fun t21 H =>
  pC call n_strings_Builder_WriteString [t3, t21] H fun _ H =>
  pAdd t9 (.int .i64 (.ofNat 1)) H fun t23 H =>
  q0 t1 t3 t7 t8 t23 H)) (S_trace_Show_0 call t1 t3 H)) n
noncomputable def S_trace_Show_2 (call : CallFn) (t0 : AV) (H : AHeap) : R :=
  pBox t0 H fun t1 H =>
  pNewB 70 H fun t3 H =>
  pFa 6 t1 H fun t6 H =>
  ldK .none H t6 fun t7 H =>
  pO (aLen .sl H t7) H fun t8 H =>
  S_trace_Show_1 call 1000000 t1 t3 t7 t8 (.int .i64 (.ofNat 0)) H
noncomputable def S_trace_Show : Ff := ⟨fun call l H => argA1 (fun t0 => S_trace_Show_2 call t0 H) l⟩
/- gantline/trace.Order -/
noncomputable def S_trace_Order_0 (_ : CallFn) (n : Nat) : AV → AV → AV → AV → AHeap → R :=
  Nat.rec (motive := fun _ => AV → AV → AV → AV → AHeap → R) (fun _ _ _ _ _ => none) (fun _ q0 t3 t7 t8 t9 H => pLss t9 t8 H fun t10 H =>
  onBool t10 (pIa 7 t7 t9 H fun t11 H =>
  ldK (.some 7) H t11 fun t12 H =>
  pNew [(.int .i64 (.ofNat 0)), (.int .i64 (.ofNat 0)), (.int .i64 (.ofNat 0)), (.int .i64 (.ofNat 0)), (.int .i64 (.ofNat 0)), (.int .i64 (.ofNat 0)), (.int .i64 (.ofNat 0))] H fun t5 H =>
  stK 7 H t5 t12 fun _ H =>
  pFa 0 t5 H fun t14 H =>
  ldK .none H t14 fun t15 H =>
  pN (aBsl 1 1 [(.int .i64 (.ofNat 0))] [(0, 1, t15)]) H fun t16 H =>
  pW (aApp 1 8 H t3 t16) fun t17 H =>
  pAdd t9 (.int .i64 (.ofNat 1)) H fun t18 H =>
  q0 t17 t7 t8 t18 H) (some (t3, H))) n
noncomputable def S_trace_Order_1 (call : CallFn) (t0 : AV) (H : AHeap) : R :=
  pBox t0 H fun t1 H =>
  pFa 6 t1 H fun t6 H =>
  ldK .none H t6 fun t7 H =>
  pO (aLen .sl H t7) H fun t8 H =>
  S_trace_Order_0 call 1000000 .nilsl t7 t8 (.int .i64 (.ofNat 0)) H
noncomputable def S_trace_Order : Ff := ⟨fun call l H => argA1 (fun t0 => S_trace_Order_1 call t0 H) l⟩
/- gantline/gantlineref9.Text -/
noncomputable def S_gantlineref9_Text_0 (call : CallFn) (t0 : AV) (H : AHeap) : R :=
  pLss t0 (.int .i64 (.ofNat 0)) H fun t4 H =>
  onBool t4 (pO (aUn .neg t0) H fun t7 H =>
  pEql t0 t7 H fun t8 H =>
  onBool t8 (some ((.str [45, 57, 50, 50, 51, 51, 55, 50, 48, 51, 54, 56, 53, 52, 55, 55, 53, 56, 48, 56]), H)) (pO (aUn .neg t0) H fun t10 H =>
  pC call n_gantlineref9_Text [t10] H fun t11 H =>
  pAdd (.str [45]) t11 H fun t12 H =>
  some (t12, H))) (pLss t0 (.int .i64 (.ofNat 10)) H fun t14 H =>
  onBool t14 (pAdd t0 (.int .i64 (.ofNat 1)) H fun t17 H =>
  pO (aSliceS (.str [48, 49, 50, 51, 52, 53, 54, 55, 56, 57]) (.some t0) (.some t17)) H fun t18 H =>
  some (t18, H)) (pO (aBin .quo t0 (.int .i64 (.ofNat 10))) H fun t20 H =>
  pO (aBin .rem t0 (.int .i64 (.ofNat 10))) H fun t23 H =>
  pO (aBin .rem t0 (.int .i64 (.ofNat 10))) H fun t25 H =>
  pAdd t25 (.int .i64 (.ofNat 1)) H fun t26 H =>
  pO (aSliceS (.str [48, 49, 50, 51, 52, 53, 54, 55, 56, 57]) (.some t23) (.some t26)) H fun t27 H =>
  pC call n_gantlineref9_Text [t20] H fun t21 H =>
  pAdd t21 t27 H fun t28 H =>
  some (t28, H)))
noncomputable def S_gantlineref9_Text : Ff := ⟨fun call l H => argA1 (fun t0 => S_gantlineref9_Text_0 call t0 H) l⟩
/- gantline/gantlineref9.Name -/
noncomputable def S_gantlineref9_Name_0 (call : CallFn) (t0 t5 t7 : AV) (H : AHeap) : R :=
  pPick t5 (.bool true) t7 H fun t8 H =>
  onBool t8 (some ((.str []), H)) (pC call n_gantlineref9_rows [] H fun t9 H =>
  pIa 2 t9 t0 H fun t11 H =>
  pFa 0 t11 H fun t12 H =>
  ldK .none H t12 fun t13 H =>
  some (t13, H))
noncomputable def S_gantlineref9_Name_1 (call : CallFn) (t0 : AV) (H : AHeap) : R :=
  pLss t0 (.int .i64 (.ofNat 0)) H fun t4 H =>
  guardA t4 false (pGtr t0 (.int .i64 (.ofNat 44)) H fun t7 H =>
  S_gantlineref9_Name_0 call t0 t4 t7 H) (S_gantlineref9_Name_0 call t0 t4 U H)
noncomputable def S_gantlineref9_Name : Ff := ⟨fun call l H => argA1 (fun t0 => S_gantlineref9_Name_1 call t0 H) l⟩
/- gantline/run.Run -/
noncomputable def S_run_Run_0 (call : CallFn) (t6 t8 t10 : AV) (H : AHeap) : R :=
  pC call n_run_Told [t8, t10] H fun t38 H =>
  stK 7 H t6 t38 fun _ H =>
  ob (allM (fun o => o) [aLoad (.some 7) H t6, some (.int .i64 (.ofNat 0))]) fun vs => some (resV vs, H)
noncomputable def S_run_Run_1 (call : CallFn) (n : Nat) : AV → AV → AV → AV → AV → AV → AHeap → R :=
  Nat.rec (motive := fun _ => AV → AV → AV → AV → AV → AV → AHeap → R) (fun _ _ _ _ _ _ _ => none) (fun _ q0 t6 t8 t10 t23 t24 t25 H => pLss t25 t24 H fun t26 H =>
  onBool t26 (pIa 1 t23 t25 H fun t27 H =>
  ldK .none H t27 fun t28 H =>
  pC call n_run_One [t8, t28] H fun t31 H =>
  pO (aUn .not t31) H fun t32 H =>
  onBool t32 (S_run_Run_0 call t6 t8 t10 H) (pAdd t10 (.int .i64 (.ofNat 1)) H fun t34 H =>
  pAdd t25 (.int .i64 (.ofNat 1)) H fun t35 H =>
  q0 t6 t8 t34 t23 t24 t35 H)) (S_run_Run_0 call t6 t8 t10 H)) n
noncomputable def S_run_Run_2 (call : CallFn) (t0 t1 t2 : AV) (H : AHeap) : R :=
  pBox t0 H fun t3 H =>
  pNew [.nilsl, (.int .i64 (.ofNat 0)), (.int .i64 (.ofNat 0)), (.int .i64 (.ofNat 0)), (.int .i64 (.ofNat 0)), (.int .i64 (.ofNat 0)), .nilsl] H fun t6 H =>
  ldK (.some 6) H t3 fun t14 H =>
  pC call n_vm_New [t14, t1] H fun t16 H =>
  pExt t16 0 H fun t17 H =>
  pExt t16 1 H fun t18 H =>
  pNeq t18 (.int .i64 (.ofNat 0)) H fun t20 H =>
  onBool t20 (pO (someAgg (aFill [.nilsl, (.int .i64 (.ofNat 0)), (.int .i64 (.ofNat 0)), (.int .i64 (.ofNat 0)), (.int .i64 (.ofNat 0)), (.int .i64 (.ofNat 0)), .nilsl] [])) H fun t21 H =>
  stK 7 H t6 t21 fun _ H =>
  ob (allM (fun o => o) [aLoad (.some 7) H t6, some t18]) fun vs => some (resV vs, H)) (pO (aLen .sl H t2) H fun t24 H =>
  S_run_Run_1 call 1000000 t6 t17 (.int .i64 (.ofNat 0)) t2 t24 (.int .i64 (.ofNat 0)) H)
noncomputable def S_run_Run : Ff := ⟨fun call l H => argA3 (fun t0 t1 t2 => S_run_Run_2 call t0 t1 t2 H) l⟩
/- gantline/gantlineref17.Ints -/
noncomputable def S_gantlineref17_Ints_0 (_ : CallFn) (n : Nat) : AV → AV → AV → AHeap → R :=
  Nat.rec (motive := fun _ => AV → AV → AV → AHeap → R) (fun _ _ _ _ => none) (fun _ q0 t0 t1 t5 H => pO (aLen .sl H t0) H fun t13 H =>
  pLss t5 t13 H fun t14 H =>
  onBool t14 (pIa 1 t0 t5 H fun t19 H =>
  ldK .none H t19 fun t20 H =>
  pIa 1 t1 t5 H fun t23 H =>
  ldK .none H t23 fun t24 H =>
  pNeq t20 t24 H fun t25 H =>
  onBool t25 (some ((.bool false), H)) (pAdd t5 (.int .i64 (.ofNat 1)) H fun t16 H =>
  q0 t0 t1 t16 H)) (some ((.bool true), H))) n
noncomputable def S_gantlineref17_Ints_1 (call : CallFn) (t0 t1 : AV) (H : AHeap) : R :=
  pO (aLen .sl H t0) H fun t7 H =>
  pO (aLen .sl H t1) H fun t9 H =>
  pNeq t7 t9 H fun t10 H =>
  onBool t10 (some ((.bool false), H)) (S_gantlineref17_Ints_0 call 1000000 t0 t1 (.int .i64 (.ofNat 0)) H)
noncomputable def S_gantlineref17_Ints : Ff := ⟨fun call l H => argA2 (fun t0 t1 => S_gantlineref17_Ints_1 call t0 t1 H) l⟩
/- gantline/gantlineref17.Nums -/
noncomputable def S_gantlineref17_Nums_0 (_ : CallFn) (n : Nat) : AV → AV → AV → AHeap → R :=
  Nat.rec (motive := fun _ => AV → AV → AV → AHeap → R) (fun _ _ _ _ => none) (fun _ q0 t0 t1 t5 H => pO (aLen .sl H t0) H fun t13 H =>
  pLss t5 t13 H fun t14 H =>
  onBool t14 (pIa 1 t0 t5 H fun t19 H =>
  ldK .none H t19 fun t20 H =>
  pIa 1 t1 t5 H fun t23 H =>
  ldK .none H t23 fun t24 H =>
  pNeq t20 t24 H fun t25 H =>
  onBool t25 (some ((.bool false), H)) (pAdd t5 (.int .i64 (.ofNat 1)) H fun t16 H =>
  q0 t0 t1 t16 H)) (some ((.bool true), H))) n
noncomputable def S_gantlineref17_Nums_1 (call : CallFn) (t0 t1 : AV) (H : AHeap) : R :=
  pO (aLen .sl H t0) H fun t7 H =>
  pO (aLen .sl H t1) H fun t9 H =>
  pNeq t7 t9 H fun t10 H =>
  onBool t10 (some ((.bool false), H)) (S_gantlineref17_Nums_0 call 1000000 t0 t1 (.int .i64 (.ofNat 0)) H)
noncomputable def S_gantlineref17_Nums : Ff := ⟨fun call l H => argA2 (fun t0 t1 => S_gantlineref17_Nums_1 call t0 t1 H) l⟩
/- gantline/vm.New -/
noncomputable def S_vm_New_0 (call : CallFn) (t0 t1 : AV) (H : AHeap) : R :=
  pBox t0 H fun t2 H =>
  ldK (.some 6) H t2 fun t9 H =>
  pC call n_verify_Module [t9] H fun t10 H =>
  pO (aUn .not t10) H fun t11 H =>
  onBool t11 (some (.tup [.nilp, (.int .i64 (.ofNat 8))], H)) (pFa 0 t2 H fun t14 H =>
  ldK .none H t14 fun t15 H =>
  pC call n_heap_New [t1, t15] H fun t16 H =>
  pExt t16 0 H fun t17 H =>
  pExt t16 1 H fun t18 H =>
  pNeq t18 (.int .i64 (.ofNat 0)) H fun t20 H =>
  onBool t20 (some (.tup [.nilp, t18], H)) (ldK (.some 6) H t2 fun t22 H =>
  pC call n_vm_clone [t22] H fun t23 H =>
  stK 6 H t2 t23 fun _ H =>
  ldK (.some 6) H t2 fun t24 H =>
  ldK (.some 6) H t2 fun t26 H =>
  pFa 1 t2 H fun t28 H =>
  ldK .none H t28 fun t29 H =>
  pO (aLen .sl H t29) H fun t30 H =>
  pN (aMksl 1 8 [(.int .i64 (.ofNat 0))] t30 t30) H fun t31 H =>
  pC call n_sched_New [t26] H fun t27 H =>
  andR (andB (ckV (aLoad (.some 6) H t2) t24) (andB (ckV (aLoad .none H t28) t29) (andB (ckV (aLen .sl H t29) t30) true))) (
  pO (someAgg (aFill [.nilsl, .nilsl, .nilsl, .nilsl, .nilsl, (.int .i64 (.ofNat 0)), .nilp, .nilp, .nilsl, .nilsl, .nilsl, (.int .i64 (.ofNat 0)), (.int .i64 (.ofNat 0))] [(0, 6, t24), (6, 1, t17), (7, 1, t27), (8, 1, t31)])) H fun t32 H =>
  pBox t32 H fun t33 H =>
  pO (aNil t33) H fun t35 H =>
  pFa 7 t35 H fun t36 H =>
  ldK .none H t36 fun t37 H =>
  pFa 5 t2 H fun t38 H =>
  ldK .none H t38 fun t39 H =>
  pC call n_sched_Table_Add [t37, t39, .nilsl] H fun _ H =>
  pC call n_vm_Machine_settle [t33] H fun _ H =>
  some (.tup [t33, (.int .i64 (.ofNat 0))], H))))
noncomputable def S_vm_New : Ff := ⟨fun call l H => argA2 (fun t0 t1 => S_vm_New_0 call t0 t1 H) l⟩
/- (*gantline/trace.player).act -/
noncomputable def S_trace_player_act_0 (_ : CallFn) (t51 t59 : AV) (H : AHeap) : R :=
  pPick t51 t59 (.bool false) H fun t60 H =>
  some (t60, H)
noncomputable def S_trace_player_act_1 (call : CallFn) (t0 t5 t44 t49 : AV) (H : AHeap) : R :=
  pPick t44 t49 (.bool false) H fun t50 H =>
  guardA t50 true (pO (aNil t0) H fun t53 H =>
  pFa 0 t53 H fun t54 H =>
  ldK .none H t54 fun t55 H =>
  pC call n_vm_Machine_Acts [t55] H fun t56 H =>
  pO (aLen .sl H t56) H fun t57 H =>
  pGtr t57 t5 H fun t59 H =>
  S_trace_player_act_0 call t50 t59 H) (S_trace_player_act_0 call t50 U H)
noncomputable def S_trace_player_act_2 (call : CallFn) (t0 t3 t19 t24 : AV) (H : AHeap) : R :=
  pPick t19 (.bool true) t24 H fun t25 H =>
  onBool t25 (some ((.bool false), H)) (pO (aNil t0) H fun t27 H =>
  pFa 0 t27 H fun t28 H =>
  ldK .none H t28 fun t29 H =>
  pC call n_vm_Machine_Acts [t29] H fun t30 H =>
  pO (aLen .sl H t30) H fun t31 H =>
  pO (aNil t0) H fun t33 H =>
  pFa 0 t33 H fun t34 H =>
  ldK .none H t34 fun t35 H =>
  pFa 0 t3 H fun t36 H =>
  ldK .none H t36 fun t37 H =>
  pFa 4 t3 H fun t39 H =>
  ldK (.some 3) H t39 fun t40 H =>
  pC call n_vm_Machine_WaysOf [t35, t37] H fun t38 H =>
  andR (andB (ckV (aLoad (.some 3) H t39) t40) true) (
  pC call n_slices_Index_sched_Way [t38, t40] H fun t41 H =>
  pGeq t41 (.int .i64 (.ofNat 0)) H fun t43 H =>
  guardA t43 true (pFa 0 t3 H fun t46 H =>
  ldK .none H t46 fun t47 H =>
  pC call n_trace_player_do [t0, t47, t41] H fun t49 H =>
  S_trace_player_act_1 call t0 t31 t43 t49 H) (S_trace_player_act_1 call t0 t31 t43 U H)))
noncomputable def S_trace_player_act_3 (call : CallFn) (t0 t3 t11 t17 : AV) (H : AHeap) : R :=
  pPick t11 t17 (.bool false) H fun t18 H =>
  guardA t18 false (pFa 0 t3 H fun t21 H =>
  ldK .none H t21 fun t22 H =>
  pC call n_trace_player_lead [t0, t22] H fun t23 H =>
  pO (aUn .not t23) H fun t24 H =>
  S_trace_player_act_2 call t0 t3 t18 t24 H) (S_trace_player_act_2 call t0 t3 t18 U H)
noncomputable def S_trace_player_act_4 (call : CallFn) (t0 t1 : AV) (H : AHeap) : R :=
  pBox t1 H fun t3 H =>
  pFa 4 t3 H fun t7 H =>
  pFa 1 t7 H fun t8 H =>
  ldK .none H t8 fun t9 H =>
  pNeq t9 (.int .i64 (.ofNat 0)) H fun t10 H =>
  guardA t10 true (pFa 4 t3 H fun t13 H =>
  pFa 1 t13 H fun t14 H =>
  ldK .none H t14 fun t15 H =>
  pC call n_trace_player_lead [t0, t15] H fun t16 H =>
  pO (aUn .not t16) H fun t17 H =>
  S_trace_player_act_3 call t0 t3 t10 t17 H) (S_trace_player_act_3 call t0 t3 t10 U H)
noncomputable def S_trace_player_act : Ff := ⟨fun call l H => argA2 (fun t0 t1 => S_trace_player_act_4 call t0 t1 H) l⟩
/- gantline/run.Told -/
noncomputable def S_run_Told_0 (call : CallFn) (t0 t1 : AV) (H : AHeap) : R :=
  pNew [.nilsl, (.int .i64 (.ofNat 0)), (.int .i64 (.ofNat 0)), (.int .i64 (.ofNat 0)), (.int .i64 (.ofNat 0)), (.int .i64 (.ofNat 0)), .nilsl] H fun t4 H =>
  pC call n_vm_Machine_End [t0] H fun t9 H =>
  pExt t9 0 H fun t10 H =>
  pExt t9 1 H fun t11 H =>
  pC call n_vm_Machine_Out [t0] H fun t13 H =>
  pC call n_vm_Machine_Heap [t0] H fun t18 H =>
  pC call n_heap_Heap_Cycle [t18] H fun t19 H =>
  pC call n_cycle_Cycle_Done [t19] H fun t20 H =>
  pC call n_vm_Machine_Heap [t0] H fun t22 H =>
  pC call n_heap_Heap_Forced [t22] H fun t23 H =>
  pC call n_vm_Machine_Acts [t0] H fun t25 H =>
  pO (someAgg (aFill [.nilsl, (.int .i64 (.ofNat 0)), (.int .i64 (.ofNat 0)), (.int .i64 (.ofNat 0)), (.int .i64 (.ofNat 0)), (.int .i64 (.ofNat 0)), .nilsl] [(0, 1, t13), (1, 1, t10), (2, 1, t11), (3, 1, t1), (4, 1, t20), (5, 1, t23), (6, 1, t25)])) H fun t26 H =>
  stK 7 H t4 t26 fun _ H =>
  ob (allM (fun o => o) [aLoad (.some 7) H t4]) fun vs => some (resV vs, H)
noncomputable def S_run_Told : Ff := ⟨fun call l H => argA2 (fun t0 t1 => S_run_Told_0 call t0 t1 H) l⟩
/- gantline/code.Name -/
noncomputable def S_code_Name_0 (call : CallFn) (t0 : AV) (H : AHeap) : R :=
  pC call n_code_find [t0] H fun t4 H =>
  pO (aFld 0 .none t4) H fun t5 H =>
  some (t5, H)
noncomputable def S_code_Name : Ff := ⟨fun call l H => argA1 (fun t0 => S_code_Name_0 call t0 H) l⟩
/- gantline/run.One -/
noncomputable def S_run_One_0 (call : CallFn) (t0 t1 : AV) (H : AHeap) : R :=
  pC call n_vm_Machine_Enabled [t0] H fun t25 H =>
  pO (aLen .sl H t25) H fun t28 H =>
  pAdd t28 (.int .i64 (.ofNat 1)) H fun t29 H =>
  pO (aBin .rem t1 t29) H fun t30 H =>
  pO (aLen .sl H t25) H fun t33 H =>
  pEql t30 t33 H fun t34 H =>
  onBool t34 (pC call n_vm_Machine_Collect [t0] H fun t36 H =>
  some (t36, H)) (pIa 1 t25 t30 H fun t40 H =>
  ldK .none H t40 fun t41 H =>
  pO (aLen .sl H t25) H fun t44 H =>
  pAdd t44 (.int .i64 (.ofNat 1)) H fun t45 H =>
  pO (aBin .quo t1 t45) H fun t46 H =>
  pIa 1 t25 t30 H fun t50 H =>
  ldK .none H t50 fun t51 H =>
  pC call n_vm_Machine_Ways [t0, t51] H fun t52 H =>
  andR (andB (ckV (aLoad .none H t40) t41) (andB (ckV (aLen .sl H t25) t44) true)) (
  pO (aBin .rem t46 t52) H fun t53 H =>
  pC call n_vm_Machine_Do [t0, t41, t53] H fun t54 H =>
  some (t54, H)))
noncomputable def S_run_One_1 (call : CallFn) (t0 t1 : AV) (H : AHeap) : R :=
  pC call n_vm_Machine_End [t0] H fun t11 H =>
  pExt t11 0 H fun t12 H =>
  pExt t11 1 H fun _ H =>
  pNeq t12 (.int .i64 (.ofNat 0)) H fun t15 H =>
  onBool t15 (some ((.bool false), H)) (pEql t1 (.int .i64 (.negSucc 9223372036854775807)) H fun t18 H =>
  onBool t18 (S_run_One_0 call t0 (.int .i64 (.ofNat 0)) H) (pLss t1 (.int .i64 (.ofNat 0)) H fun t21 H =>
  onBool t21 (pO (aUn .neg t1) H fun t23 H =>
  S_run_One_0 call t0 t23 H) (S_run_One_0 call t0 t1 H)))
noncomputable def S_run_One : Ff := ⟨fun call l H => argA2 (fun t0 t1 => S_run_One_1 call t0 t1 H) l⟩
/- gantline/verify.Module -/
noncomputable def S_verify_Module_0 (call : CallFn) (t0 : AV) (H : AHeap) : R :=
  pBox t0 H fun t1 H =>
  ldK (.some 6) H t1 fun t6 H =>
  pC call n_verify_Check [t6] H fun t7 H =>
  pExt t7 0 H fun t8 H =>
  pExt t7 1 H fun t9 H =>
  pNew [(.int .i64 (.ofNat 0)), (.int .i64 (.ofNat 0)), (.int .i64 (.ofNat 0))] H fun t3 H =>
  stK 3 H t3 t8 fun _ H =>
  some (t9, H)
noncomputable def S_verify_Module : Ff := ⟨fun call l H => argA1 (fun t0 => S_verify_Module_0 call t0 H) l⟩
/- gantline/heap.New -/
noncomputable def S_heap_New_0 (call : CallFn) (t1 t8 : AV) (H : AHeap) : R :=
  pC call n_slices_Clone_head_Shape [t1] H fun t42 H =>
  pO (aNil t8) H fun t43 H =>
  pFa 1 t43 H fun t44 H =>
  stK 1 H t44 t42 fun _ H =>
  some (.tup [t8, (.int .i64 (.ofNat 0))], H)
noncomputable def S_heap_New_1 (call : CallFn) (n : Nat) : AV → AV → AV → AV → AV → AV → AHeap → R :=
  Nat.rec (motive := fun _ => AV → AV → AV → AV → AV → AV → AHeap → R) (fun _ _ _ _ _ _ _ => none) (fun _ q0 t1 t6 t8 t24 t25 t26 H => pLss t26 t25 H fun t27 H =>
  onBool t27 (pIa 3 t24 t26 H fun t28 H =>
  ldK (.some 3) H t28 fun t29 H =>
  pNew [(.int .i64 (.ofNat 0)), (.int .i64 (.ofNat 0)), (.int .u64 (.ofNat 0))] H fun t10 H =>
  stK 3 H t10 t29 fun _ H =>
  ldK (.some 3) H t10 fun t33 H =>
  pC call n_cycle_Cycle_Table [t6] H fun t32 H =>
  andR (andB (ckV (aLoad (.some 3) H t10) t33) true) (
  pC call n_head_Table_Number [t32, t33] H fun t34 H =>
  pExt t34 0 H fun _ H =>
  pExt t34 1 H fun t36 H =>
  pNeq t36 (.int .i64 (.ofNat 0)) H fun t38 H =>
  onBool t38 (some (.tup [.nilp, (.int .i64 (.ofNat 1))], H)) (pAdd t26 (.int .i64 (.ofNat 1)) H fun t39 H =>
  q0 t1 t6 t8 t24 t25 t39 H))) (S_heap_New_0 call t1 t8 H)) n
noncomputable def S_heap_New_2 (call : CallFn) (t0 t1 : AV) (H : AHeap) : R :=
  pC call n_cycle_New [t0] H fun t15 H =>
  pExt t15 0 H fun t16 H =>
  pExt t15 1 H fun t17 H =>
  pNeq t17 (.int .i64 (.ofNat 0)) H fun t19 H =>
  onBool t19 (some (.tup [.nilp, t17], H)) (pO (someAgg (aFill [.nilp, .nilsl, (.int .i64 (.ofNat 0))] [(0, 1, t16)])) H fun t22 H =>
  pBox t22 H fun t23 H =>
  pO (aLen .sl H t1) H fun t25 H =>
  S_heap_New_1 call 1000000 t1 t16 t23 t1 t25 (.int .i64 (.ofNat 0)) H)
noncomputable def S_heap_New : Ff := ⟨fun call l H => argA2 (fun t0 t1 => S_heap_New_2 call t0 t1 H) l⟩
/- gantline/vm.clone -/
noncomputable def S_vm_clone_0 (_ : CallFn) (t1 t2 : AV) (H : AHeap) : R :=
  ldK (.some 6) H t1 fun t60 H =>
  stK 6 H t2 t60 fun _ H =>
  ob (allM (fun o => o) [aLoad (.some 6) H t2]) fun vs => some (resV vs, H)
noncomputable def S_vm_clone_1 (call : CallFn) (n : Nat) : AV → AV → AV → AV → AHeap → R :=
  Nat.rec (motive := fun _ => AV → AV → AV → AV → AHeap → R) (fun _ _ _ _ _ => none) (fun _ q0 t1 t2 t27 t28 H => pLss t28 t27 H fun t29 H =>
  onBool t29 (pFa 4 t1 H fun t31 H =>
  ldK .none H t31 fun t32 H =>
  pIa 7 t32 t28 H fun t34 H =>
  pO (aNil t34) H fun t39 H =>
  pFa 4 t39 H fun t40 H =>
  ldK .none H t40 fun t41 H =>
  pO (aNil t34) H fun t44 H =>
  pFa 5 t44 H fun t45 H =>
  ldK .none H t45 fun t46 H =>
  pO (aNil t34) H fun t49 H =>
  pFa 6 t49 H fun t50 H =>
  ldK .none H t50 fun t51 H =>
  pC call n_slices_Clone_bool [t41] H fun t42 H =>
  andR (andB (ckV (aLoad .none H t45) t46) (andB (ckV (aLoad .none H t50) t51) true)) (
  pC call n_slices_Clone_code_Instr [t46] H fun t47 H =>
  andR (andB (ckV (aLoad .none H t50) t51) true) (
  pC call n_slices_Clone_uint64 [t51] H fun t52 H =>
  pO (aNil t34) H fun t53 H =>
  pFa 4 t53 H fun t54 H =>
  stK 1 H t54 t42 fun _ H =>
  pO (aNil t34) H fun t55 H =>
  pFa 5 t55 H fun t56 H =>
  stK 1 H t56 t47 fun _ H =>
  pO (aNil t34) H fun t57 H =>
  pFa 6 t57 H fun t58 H =>
  stK 1 H t58 t52 fun _ H =>
  pAdd t28 (.int .i64 (.ofNat 1)) H fun t59 H =>
  q0 t1 t2 t27 t59 H))) (S_vm_clone_0 call t1 t2 H)) n
noncomputable def S_vm_clone_2 (call : CallFn) (t0 : AV) (H : AHeap) : R :=
  pBox t0 H fun t1 H =>
  pNew [.nilsl, .nilsl, .nilsl, .nilsl, .nilsl, (.int .i64 (.ofNat 0))] H fun t2 H =>
  pFa 0 t1 H fun t5 H =>
  ldK .none H t5 fun t6 H =>
  pFa 1 t1 H fun t8 H =>
  ldK .none H t8 fun t9 H =>
  pFa 2 t1 H fun t11 H =>
  ldK .none H t11 fun t12 H =>
  pFa 3 t1 H fun t14 H =>
  ldK .none H t14 fun t15 H =>
  pC call n_slices_Clone_head_Shape [t6] H fun t7 H =>
  andR (andB (ckV (aLoad .none H t8) t9) (andB (ckV (aLoad .none H t11) t12) (andB (ckV (aLoad .none H t14) t15) true))) (
  pFa 0 t1 H fun t17 H =>
  pC call n_slices_Clone_bool [t9] H fun t10 H =>
  andR (andB (ckV (aLoad .none H t11) t12) (andB (ckV (aLoad .none H t14) t15) true)) (
  pC call n_slices_Clone_int64 [t12] H fun t13 H =>
  andR (andB (ckV (aLoad .none H t14) t15) true) (
  pC call n_slices_Clone_code_Case [t15] H fun t16 H =>
  stK 1 H t17 t7 fun _ H =>
  pFa 1 t1 H fun t18 H =>
  stK 1 H t18 t10 fun _ H =>
  pFa 2 t1 H fun t19 H =>
  stK 1 H t19 t13 fun _ H =>
  pFa 3 t1 H fun t20 H =>
  stK 1 H t20 t16 fun _ H =>
  pFa 4 t1 H fun t21 H =>
  ldK .none H t21 fun t22 H =>
  pC call n_slices_Clone_code_Func [t22] H fun t23 H =>
  pFa 4 t1 H fun t24 H =>
  stK 1 H t24 t23 fun _ H =>
  pFa 4 t1 H fun t25 H =>
  ldK .none H t25 fun t26 H =>
  pO (aLen .sl H t26) H fun t27 H =>
  S_vm_clone_1 call 1000000 t1 t2 t27 (.int .i64 (.ofNat 0)) H)))
noncomputable def S_vm_clone : Ff := ⟨fun call l H => argA1 (fun t0 => S_vm_clone_2 call t0 H) l⟩
/- gantline/sched.New -/
noncomputable def S_sched_New_0 (_ : CallFn) (t0 : AV) (H : AHeap) : R :=
  pBox t0 H fun t1 H =>
  ldK (.some 6) H t1 fun t3 H =>
  pMap H fun t4 H =>
  pO (someAgg (aFill [.nilsl, .nilsl, .nilsl, .nilsl, .nilsl, (.int .i64 (.ofNat 0)), .nilmap, (.int .i64 (.ofNat 0))] [(0, 6, t3), (6, 1, t4)])) H fun t5 H =>
  pBox t5 H fun t6 H =>
  some (t6, H)
noncomputable def S_sched_New : Ff := ⟨fun call l H => argA1 (fun t0 => S_sched_New_0 call t0 H) l⟩
/- (*gantline/sched.Table).Add -/
noncomputable def S_sched_Table_Add_0 (call : CallFn) (t0 t1 t2 : AV) (H : AHeap) : R :=
  pO (aNil t0) H fun t11 H =>
  pFa 6 t11 H fun t12 H =>
  ldK .none H t12 fun t13 H =>
  pO (aLen .map H t13) H fun t14 H =>
  pGeq t14 (.int .i64 (.ofNat 64)) H fun t15 H =>
  onBool t15 (some (.tup [(.int .i64 (.ofNat 0)), (.int .i64 (.ofNat 2))], H)) (pO (aNil t0) H fun t18 H =>
  pFa 0 t18 H fun t19 H =>
  ldK (.some 6) H t19 fun t20 H =>
  pC call n_frame_New [t20, t1, t2] H fun t23 H =>
  pExt t23 0 H fun t24 H =>
  pExt t23 1 H fun t25 H =>
  pNeq t25 (.int .i64 (.ofNat 0)) H fun t27 H =>
  onBool t27 (some (.tup [(.int .i64 (.ofNat 0)), t25], H)) (pO (aNil t0) H fun t30 H =>
  pFa 7 t30 H fun t31 H =>
  ldK .none H t31 fun t32 H =>
  pAdd t32 (.int .i64 (.ofNat 1)) H fun t33 H =>
  pO (aNil t0) H fun t34 H =>
  pFa 7 t34 H fun t35 H =>
  stK 1 H t35 t33 fun _ H =>
  pO (aNil t0) H fun t37 H =>
  pFa 6 t37 H fun t38 H =>
  ldK .none H t38 fun t39 H =>
  pO (aNil t0) H fun t41 H =>
  pFa 7 t41 H fun t42 H =>
  ldK .none H t42 fun t43 H =>
  pW (unitW (aMapUp .int H t39 t43 t24)) fun _ H =>
  pO (aNil t0) H fun t46 H =>
  pFa 7 t46 H fun t47 H =>
  ldK .none H t47 fun t48 H =>
  some (.tup [t48, (.int .i64 (.ofNat 0))], H)))
noncomputable def S_sched_Table_Add : Ff := ⟨fun call l H => argA3 (fun t0 t1 t2 => S_sched_Table_Add_0 call t0 t1 t2 H) l⟩
/- (*gantline/vm.Machine).settle -/
noncomputable def S_vm_Machine_settle_0 (_ : CallFn) (t0 t7 t18 : AV) (H : AHeap) : R :=
  pPick t7 t18 (.bool false) H fun t19 H =>
  onBool t19 (pO (aNil t0) H fun t21 H =>
  pFa 11 t21 H fun t22 H =>
  stK 1 H t22 (.int .i64 (.ofNat 3)) fun _ H =>
  some (.tup [], H)) (some (.tup [], H))
noncomputable def S_vm_Machine_settle_1 (call : CallFn) (t0 t7 t17 : AV) (H : AHeap) : R :=
  guardA t7 true (pEql t17 (.int .i64 (.ofNat 0)) H fun t18 H =>
  S_vm_Machine_settle_0 call t0 t7 t18 H) (S_vm_Machine_settle_0 call t0 t7 U H)
noncomputable def S_vm_Machine_settle_2 (call : CallFn) (t0 t7 t16 : AV) (H : AHeap) : R :=
  guardA t7 true (pO (aLen .sl H t16) H fun t17 H =>
  S_vm_Machine_settle_1 call t0 t7 t17 H) (S_vm_Machine_settle_1 call t0 t7 U H)
noncomputable def S_vm_Machine_settle_3 (call : CallFn) (t0 t7 t11 t15 : AV) (H : AHeap) : R :=
  guardA t7 true (pC call n_sched_Table_Enabled [t11, t15] H fun t16 H =>
  S_vm_Machine_settle_2 call t0 t7 t16 H) (S_vm_Machine_settle_2 call t0 t7 U H)
noncomputable def S_vm_Machine_settle_4 (call : CallFn) (t0 t7 t11 t14 : AV) (H : AHeap) : R :=
  guardA t7 true (ldK .none H t14 fun t15 H =>
  S_vm_Machine_settle_3 call t0 t7 t11 t15 H) (S_vm_Machine_settle_3 call t0 t7 t11 U H)
noncomputable def S_vm_Machine_settle_5 (call : CallFn) (t0 t7 t11 t13 : AV) (H : AHeap) : R :=
  guardA t7 true (pFa 6 t13 H fun t14 H =>
  S_vm_Machine_settle_4 call t0 t7 t11 t14 H) (S_vm_Machine_settle_4 call t0 t7 t11 U H)
noncomputable def S_vm_Machine_settle_6 (call : CallFn) (t0 t7 t11 t12 : AV) (H : AHeap) : R :=
  guardA t7 true (pO (aNil t12) H fun t13 H =>
  S_vm_Machine_settle_5 call t0 t7 t11 t13 H) (S_vm_Machine_settle_5 call t0 t7 t11 U H)
noncomputable def S_vm_Machine_settle_7 (call : CallFn) (t0 t7 t11 : AV) (H : AHeap) : R :=
  guardA t7 true (S_vm_Machine_settle_6 call t0 t7 t11 t0 H) (S_vm_Machine_settle_6 call t0 t7 t11 U H)
noncomputable def S_vm_Machine_settle_8 (call : CallFn) (t0 t7 t10 : AV) (H : AHeap) : R :=
  guardA t7 true (ldK .none H t10 fun t11 H =>
  S_vm_Machine_settle_7 call t0 t7 t11 H) (S_vm_Machine_settle_7 call t0 t7 U H)
noncomputable def S_vm_Machine_settle_9 (call : CallFn) (t0 t7 t9 : AV) (H : AHeap) : R :=
  guardA t7 true (pFa 7 t9 H fun t10 H =>
  S_vm_Machine_settle_8 call t0 t7 t10 H) (S_vm_Machine_settle_8 call t0 t7 U H)
noncomputable def S_vm_Machine_settle_10 (call : CallFn) (t0 t7 t8 : AV) (H : AHeap) : R :=
  guardA t7 true (pO (aNil t8) H fun t9 H =>
  S_vm_Machine_settle_9 call t0 t7 t9 H) (S_vm_Machine_settle_9 call t0 t7 U H)
noncomputable def S_vm_Machine_settle_11 (call : CallFn) (t0 : AV) (H : AHeap) : R :=
  pO (aNil t0) H fun t3 H =>
  pFa 11 t3 H fun t4 H =>
  ldK .none H t4 fun t5 H =>
  pEql t5 (.int .i64 (.ofNat 0)) H fun t6 H =>
  guardA t6 true (S_vm_Machine_settle_10 call t0 t6 t0 H) (S_vm_Machine_settle_10 call t0 t6 U H)
noncomputable def S_vm_Machine_settle : Ff := ⟨fun call l H => argA1 (fun t0 => S_vm_Machine_settle_11 call t0 H) l⟩
/- (*gantline/trace.player).lead -/
noncomputable def S_trace_player_lead_1 (call : CallFn) (q0 : AV → AV → AHeap → R) (t0 t1 t6 t17 t19 : AV) (H : AHeap) : R :=
  pPick t17 (.bool true) t19 H fun t20 H =>
  onBool t20 (some (t6, H)) (pC call n_trace_player_do [t0, t1, (.int .i64 (.ofNat 0))] H fun t24 H =>
  pO (aUn .not t24) H fun t25 H =>
  onBool t25 (some ((.bool false), H)) (q0 t0 t1 H))
noncomputable def S_trace_player_lead_0 (call : CallFn) (n : Nat) : AV → AV → AHeap → R :=
  Nat.rec (motive := fun _ => AV → AV → AHeap → R) (fun _ _ _ => none) (fun _ q0 t0 t1 H => pO (aNil t0) H fun t9 H =>
  pFa 0 t9 H fun t10 H =>
  ldK .none H t10 fun t11 H =>
  pC call n_vm_Machine_Next [t11, t1] H fun t13 H =>
  pExt t13 0 H fun t14 H =>
  pExt t13 1 H fun t15 H =>
  guardA t14 false (pO (aUn .not t15) H fun t19 H =>
  S_trace_player_lead_1 call q0 t0 t1 t15 t14 t19 H) (S_trace_player_lead_1 call q0 t0 t1 t15 t14 U H)) n
noncomputable def S_trace_player_lead : Ff := ⟨fun call l H => argA2 (fun t0 t1 => S_trace_player_lead_0 call 1000000 t0 t1 H) l⟩
/- (*gantline/vm.Machine).Acts -/
noncomputable def S_vm_Machine_Acts_0 (call : CallFn) (t0 : AV) (H : AHeap) : R :=
  pO (aNil t0) H fun t4 H =>
  pFa 10 t4 H fun t5 H =>
  ldK .none H t5 fun t6 H =>
  pC call n_slices_Clone_vm_Act [t6] H fun t7 H =>
  some (t7, H)
noncomputable def S_vm_Machine_Acts : Ff := ⟨fun call l H => argA1 (fun t0 => S_vm_Machine_Acts_0 call t0 H) l⟩
/- slices.Index[[]gantline/sched.Way,gantline/sched.Way] -/
noncomputable def S_slices_Index_sched_Way_0 (_ : CallFn) (n : Nat) : AV → AV → AV → AV → AHeap → R :=
  Nat.rec (motive := fun _ => AV → AV → AV → AV → AHeap → R) (fun _ _ _ _ _ => none) (fun _ q0 t0 t3 t7 t8 H => pLss t8 t7 H fun t9 H =>
  onBool t9 (ldK (.some 3) H t3 fun t11 H =>
  pIa 3 t0 t8 H fun t14 H =>
  ldK (.some 3) H t14 fun t15 H =>
  pO (aEq false (.struct [(0, .none, .int), (1, .none, .int), (2, .none, .int)]) t11 t15) H fun t16 H =>
  onBool t16 (some (t8, H)) (pAdd t8 (.int .i64 (.ofNat 1)) H fun t18 H =>
  q0 t0 t3 t7 t18 H)) (some ((.int .i64 (.negSucc 0)), H))) n
noncomputable def S_slices_Index_sched_Way_1 (call : CallFn) (t0 t1 : AV) (H : AHeap) : R :=
  pBox t1 H fun t3 H =>
  pO (aLen .sl H t0) H fun t7 H =>
  S_slices_Index_sched_Way_0 call 1000000 t0 t3 t7 (.int .i64 (.ofNat 0)) H
noncomputable def S_slices_Index_sched_Way : Ff := ⟨fun call l H => argA2 (fun t0 t1 => S_slices_Index_sched_Way_1 call t0 t1 H) l⟩
/- (*gantline/vm.Machine).WaysOf -/
noncomputable def S_vm_Machine_WaysOf_0 (call : CallFn) (t0 t1 : AV) (H : AHeap) : R :=
  pO (aNil t0) H fun t6 H =>
  pFa 11 t6 H fun t7 H =>
  ldK .none H t7 fun t8 H =>
  pNeq t8 (.int .i64 (.ofNat 0)) H fun t9 H =>
  onBool t9 (some (.nilsl, H)) (pO (aNil t0) H fun t11 H =>
  pFa 7 t11 H fun t12 H =>
  ldK .none H t12 fun t13 H =>
  pO (aNil t0) H fun t15 H =>
  pFa 6 t15 H fun t16 H =>
  ldK .none H t16 fun t17 H =>
  pC call n_sched_Table_Ways [t13, t17, t1] H fun t19 H =>
  some (t19, H))
noncomputable def S_vm_Machine_WaysOf : Ff := ⟨fun call l H => argA2 (fun t0 t1 => S_vm_Machine_WaysOf_0 call t0 t1 H) l⟩
/- (*gantline/trace.player).do -/
noncomputable def S_trace_player_do_0 (_ : CallFn) (t0 t12 t20 : AV) (H : AHeap) : R :=
  pPick t12 (.bool true) t20 H fun t21 H =>
  onBool t21 (some ((.bool false), H)) (pO (aNil t0) H fun t23 H =>
  pFa 1 t23 H fun t24 H =>
  ldK .none H t24 fun t25 H =>
  pAdd t25 (.int .i64 (.ofNat 1)) H fun t26 H =>
  pO (aNil t0) H fun t27 H =>
  pFa 1 t27 H fun t28 H =>
  stK 1 H t28 t26 fun _ H =>
  some ((.bool true), H))
noncomputable def S_trace_player_do_1 (call : CallFn) (t0 t1 t2 : AV) (H : AHeap) : R :=
  pO (aNil t0) H fun t8 H =>
  pFa 1 t8 H fun t9 H =>
  ldK .none H t9 fun t10 H =>
  pGeq t10 (.int .i64 (.ofNat 100000)) H fun t11 H =>
  guardA t11 false (pO (aNil t0) H fun t14 H =>
  pFa 0 t14 H fun t15 H =>
  ldK .none H t15 fun t16 H =>
  pC call n_vm_Machine_Do [t16, t1, t2] H fun t19 H =>
  pO (aUn .not t19) H fun t20 H =>
  S_trace_player_do_0 call t0 t11 t20 H) (S_trace_player_do_0 call t0 t11 U H)
noncomputable def S_trace_player_do : Ff := ⟨fun call l H => argA3 (fun t0 t1 t2 => S_trace_player_do_1 call t0 t1 t2 H) l⟩
/- (*gantline/vm.Machine).End -/
noncomputable def S_vm_Machine_End_0 (_ : CallFn) (t0 : AV) (H : AHeap) : R :=
  pO (aNil t0) H fun t5 H =>
  pFa 11 t5 H fun t6 H =>
  ldK .none H t6 fun t7 H =>
  pO (aNil t0) H fun t9 H =>
  pFa 12 t9 H fun t10 H =>
  ldK .none H t10 fun t11 H =>
  some (.tup [t7, t11], H)
noncomputable def S_vm_Machine_End : Ff := ⟨fun call l H => argA1 (fun t0 => S_vm_Machine_End_0 call t0 H) l⟩
/- (*gantline/vm.Machine).Out -/
noncomputable def S_vm_Machine_Out_0 (call : CallFn) (t0 : AV) (H : AHeap) : R :=
  pO (aNil t0) H fun t4 H =>
  pFa 9 t4 H fun t5 H =>
  ldK .none H t5 fun t6 H =>
  pC call n_slices_Clone_int64 [t6] H fun t7 H =>
  some (t7, H)
noncomputable def S_vm_Machine_Out : Ff := ⟨fun call l H => argA1 (fun t0 => S_vm_Machine_Out_0 call t0 H) l⟩
/- (*gantline/vm.Machine).Heap -/
noncomputable def S_vm_Machine_Heap_0 (_ : CallFn) (t0 : AV) (H : AHeap) : R :=
  pO (aNil t0) H fun t4 H =>
  pFa 6 t4 H fun t5 H =>
  ldK .none H t5 fun t6 H =>
  some (t6, H)
noncomputable def S_vm_Machine_Heap : Ff := ⟨fun call l H => argA1 (fun t0 => S_vm_Machine_Heap_0 call t0 H) l⟩
/- (*gantline/heap.Heap).Cycle -/
noncomputable def S_heap_Heap_Cycle_0 (_ : CallFn) (t0 : AV) (H : AHeap) : R :=
  pO (aNil t0) H fun t4 H =>
  pFa 0 t4 H fun t5 H =>
  ldK .none H t5 fun t6 H =>
  some (t6, H)
noncomputable def S_heap_Heap_Cycle : Ff := ⟨fun call l H => argA1 (fun t0 => S_heap_Heap_Cycle_0 call t0 H) l⟩
/- (*gantline/cycle.Cycle).Done -/
noncomputable def S_cycle_Cycle_Done_0 (_ : CallFn) (t0 : AV) (H : AHeap) : R :=
  pO (aNil t0) H fun t4 H =>
  pFa 6 t4 H fun t5 H =>
  ldK .none H t5 fun t6 H =>
  some (t6, H)
noncomputable def S_cycle_Cycle_Done : Ff := ⟨fun call l H => argA1 (fun t0 => S_cycle_Cycle_Done_0 call t0 H) l⟩
/- (*gantline/heap.Heap).Forced -/
noncomputable def S_heap_Heap_Forced_0 (_ : CallFn) (t0 : AV) (H : AHeap) : R :=
  pO (aNil t0) H fun t4 H =>
  pFa 2 t4 H fun t5 H =>
  ldK .none H t5 fun t6 H =>
  some (t6, H)
noncomputable def S_heap_Heap_Forced : Ff := ⟨fun call l H => argA1 (fun t0 => S_heap_Heap_Forced_0 call t0 H) l⟩
/- internal/strconv.Itoa -/
noncomputable def S_internal_strconv_Itoa_0 (call : CallFn) (t0 : AV) (H : AHeap) : R :=
  pC call n_internal_strconv_FormatInt [t0, (.int .i64 (.ofNat 10))] H fun t4 H =>
  some (t4, H)
noncomputable def S_internal_strconv_Itoa : Ff := ⟨fun call l H => argA1 (fun t0 => S_internal_strconv_Itoa_0 call t0 H) l⟩
/- gantline/code.find -/
noncomputable def S_code_find_0 (_ : CallFn) (t0 t2 t3 t7 t11 : AV) (H : AHeap) : R :=
  pPick t7 (.bool true) t11 H fun t12 H =>
  onBool t12 (pO (someAgg (aFill [(.str []), (.int .i64 (.ofNat 0))] [])) H fun t13 H =>
  stK 2 H t2 t13 fun _ H =>
  ob (allM (fun o => o) [aLoad (.some 2) H t2]) fun vs => some (resV vs, H)) (pIa 2 t3 t0 H fun t16 H =>
  ldK (.some 2) H t16 fun t17 H =>
  stK 2 H t2 t17 fun _ H =>
  ob (allM (fun o => o) [aLoad (.some 2) H t2]) fun vs => some (resV vs, H))
noncomputable def S_code_find_1 (call : CallFn) (t0 : AV) (H : AHeap) : R :=
  pNew [(.str []), (.int .i64 (.ofNat 0))] H fun t2 H =>
  pC call n_code_rows [] H fun t4 H =>
  pLss t0 (.int .i64 (.ofNat 0)) H fun t6 H =>
  guardA t6 false (pO (aLen .sl H t4) H fun t10 H =>
  pGeq t0 t10 H fun t11 H =>
  S_code_find_0 call t0 t2 t4 t6 t11 H) (S_code_find_0 call t0 t2 t4 t6 U H)
noncomputable def S_code_find : Ff := ⟨fun call l H => argA1 (fun t0 => S_code_find_1 call t0 H) l⟩
/- (*gantline/vm.Machine).Enabled -/
noncomputable def S_vm_Machine_Enabled_0 (call : CallFn) (t0 : AV) (H : AHeap) : R :=
  pO (aNil t0) H fun t4 H =>
  pFa 11 t4 H fun t5 H =>
  ldK .none H t5 fun t6 H =>
  pNeq t6 (.int .i64 (.ofNat 0)) H fun t7 H =>
  onBool t7 (some (.nilsl, H)) (pO (aNil t0) H fun t9 H =>
  pFa 7 t9 H fun t10 H =>
  ldK .none H t10 fun t11 H =>
  pO (aNil t0) H fun t13 H =>
  pFa 6 t13 H fun t14 H =>
  ldK .none H t14 fun t15 H =>
  pC call n_sched_Table_Enabled [t11, t15] H fun t16 H =>
  some (t16, H))
noncomputable def S_vm_Machine_Enabled : Ff := ⟨fun call l H => argA1 (fun t0 => S_vm_Machine_Enabled_0 call t0 H) l⟩
/- (*gantline/vm.Machine).Do -/
noncomputable def S_vm_Machine_Do_0 (call : CallFn) (t0 : AV) (H : AHeap) : R :=
  pC call n_vm_Machine_settle [t0] H fun _ H =>
  some ((.bool true), H)
noncomputable def S_vm_Machine_Do_1 (call : CallFn) (t0 t1 t2 t7 t9 t11 t82 t87 : AV) (H : AHeap) : R :=
  pPick t82 t87 (.bool false) H fun t88 H =>
  onBool t88 (pO (aNil t0) H fun t91 H =>
  pFa 10 t91 H fun t92 H =>
  ldK .none H t92 fun t93 H =>
  pFa 0 t9 H fun t95 H =>
  ldK .none H t95 fun t96 H =>
  pFa 0 t11 H fun t97 H =>
  ldK .none H t97 fun t98 H =>
  pFa 1 t11 H fun t99 H =>
  ldK .none H t99 fun t100 H =>
  pIa 3 t7 t2 H fun t103 H =>
  ldK (.some 3) H t103 fun t104 H =>
  pO (someAgg (aFill [(.int .i64 (.ofNat 0)), (.int .i64 (.ofNat 0)), (.int .i64 (.ofNat 0)), (.int .i64 (.ofNat 0)), (.int .i64 (.ofNat 0)), (.int .i64 (.ofNat 0)), (.int .i64 (.ofNat 0))] [(0, 1, t1), (1, 1, t96), (2, 1, t98), (3, 1, t100), (4, 3, t104)])) H fun t105 H =>
  pN (aBsl 7 1 [(.int .i64 (.ofNat 0)), (.int .i64 (.ofNat 0)), (.int .i64 (.ofNat 0)), (.int .i64 (.ofNat 0)), (.int .i64 (.ofNat 0)), (.int .i64 (.ofNat 0)), (.int .i64 (.ofNat 0))] [(0, 7, t105)]) H fun t106 H =>
  pW (aApp 7 56 H t93 t106) fun t107 H =>
  pO (aNil t0) H fun t108 H =>
  pFa 10 t108 H fun t109 H =>
  stK 1 H t109 t107 fun _ H =>
  S_vm_Machine_Do_0 call t0 H) (S_vm_Machine_Do_0 call t0 H)
noncomputable def S_vm_Machine_Do_2 (call : CallFn) (t0 t1 t2 t7 t9 t11 t75 t80 : AV) (H : AHeap) : R :=
  pPick t75 t80 (.bool false) H fun t81 H =>
  guardA t81 true (pO (aNil t0) H fun t84 H =>
  pFa 11 t84 H fun t85 H =>
  ldK .none H t85 fun t86 H =>
  pNeq t86 (.int .i64 (.ofNat 4)) H fun t87 H =>
  S_vm_Machine_Do_1 call t0 t1 t2 t7 t9 t11 t81 t87 H) (S_vm_Machine_Do_1 call t0 t1 t2 t7 t9 t11 t81 U H)
noncomputable def S_vm_Machine_Do_3 (call : CallFn) (t0 t1 t2 t7 t20 t24 : AV) (H : AHeap) : R :=
  pPick t20 (.bool true) t24 H fun t25 H =>
  onBool t25 (some ((.bool false), H)) (pO (aNil t0) H fun t27 H =>
  pFa 7 t27 H fun t28 H =>
  ldK .none H t28 fun t29 H =>
  pC call n_sched_Table_Stack [t29, t1] H fun t31 H =>
  pO (aNil t0) H fun t35 H =>
  pFa 0 t35 H fun t36 H =>
  ldK (.some 6) H t36 fun t37 H =>
  pC call n_frame_Stack_At [t31, t37] H fun t38 H =>
  pExt t38 0 H fun t39 H =>
  pExt t38 1 H fun _ H =>
  pNew [(.int .i64 (.ofNat 0)), (.int .i64 (.ofNat 0)), (.int .i64 (.ofNat 0)), (.int .i64 (.ofNat 0)), (.int .i64 (.ofNat 0))] H fun t9 H =>
  stK 5 H t9 t39 fun _ H =>
  pC call n_frame_Stack_Top [t31] H fun t43 H =>
  pExt t43 0 H fun t44 H =>
  pExt t43 1 H fun _ H =>
  pNew [(.int .i64 (.ofNat 0)), (.int .i64 (.ofNat 0)), .nilsl] H fun t11 H =>
  stK 3 H t11 t44 fun _ H =>
  pFa 0 t9 H fun t46 H =>
  ldK .none H t46 fun t47 H =>
  pC call n_frame_Stack_Depth [t31] H fun t49 H =>
  andR (andB (ckV (aLoad .none H t46) t47) true) (
  pC call n_vm_isAct [t47, t49] H fun t50 H =>
  ldK (.some 5) H t9 fun t54 H =>
  pO (aNil t0) H fun t56 H =>
  pFa 0 t56 H fun t57 H =>
  pFa 4 t57 H fun t58 H =>
  ldK .none H t58 fun t59 H =>
  pFa 0 t11 H fun t60 H =>
  ldK .none H t60 fun t61 H =>
  pIa 7 t59 t61 H fun t62 H =>
  ldK (.some 7) H t62 fun t63 H =>
  pFa 1 t11 H fun t64 H =>
  ldK .none H t64 fun t65 H =>
  pIa 3 t7 t2 H fun t68 H =>
  ldK (.some 3) H t68 fun t69 H =>
  pO (someAgg (aFill [.nilp, (.int .i64 (.ofNat 0)), .nilp, (.int .i64 (.ofNat 0)), (.int .i64 (.ofNat 0)), (.int .i64 (.ofNat 0)), (.int .i64 (.ofNat 0)), (.int .i64 (.ofNat 0)), (.int .i64 (.ofNat 0)), (.int .i64 (.ofNat 0)), (.int .i64 (.ofNat 0)), (.int .i64 (.ofNat 0)), .nilsl, .nilsl, .nilsl, (.int .i64 (.ofNat 0)), (.int .i64 (.ofNat 0)), (.int .i64 (.ofNat 0)), (.int .i64 (.ofNat 0))] [(0, 1, t0), (1, 1, t1), (2, 1, t31), (3, 5, t54), (8, 7, t63), (15, 1, t65), (16, 3, t69)])) H fun t70 H =>
  pBox t70 H fun t71 H =>
  pC call n_vm_doing_do [t71] H fun _ H =>
  guardA t50 true (pO (aNil t0) H fun t77 H =>
  pFa 11 t77 H fun t78 H =>
  ldK .none H t78 fun t79 H =>
  pNeq t79 (.int .i64 (.ofNat 2)) H fun t80 H =>
  S_vm_Machine_Do_2 call t0 t1 t2 t7 t9 t11 t50 t80 H) (S_vm_Machine_Do_2 call t0 t1 t2 t7 t9 t11 t50 U H)))
noncomputable def S_vm_Machine_Do_4 (call : CallFn) (t0 t1 t2 : AV) (H : AHeap) : R :=
  pC call n_vm_Machine_WaysOf [t0, t1] H fun t17 H =>
  pLss t2 (.int .i64 (.ofNat 0)) H fun t19 H =>
  guardA t19 false (pO (aLen .sl H t17) H fun t23 H =>
  pGeq t2 t23 H fun t24 H =>
  S_vm_Machine_Do_3 call t0 t1 t2 t17 t19 t24 H) (S_vm_Machine_Do_3 call t0 t1 t2 t17 t19 U H)
noncomputable def S_vm_Machine_Do : Ff := ⟨fun call l H => argA3 (fun t0 t1 t2 => S_vm_Machine_Do_4 call t0 t1 t2 H) l⟩
/- (*gantline/vm.Machine).Ways -/
noncomputable def S_vm_Machine_Ways_0 (call : CallFn) (t0 t1 : AV) (H : AHeap) : R :=
  pC call n_vm_Machine_WaysOf [t0, t1] H fun t7 H =>
  pO (aLen .sl H t7) H fun t8 H =>
  some (t8, H)
noncomputable def S_vm_Machine_Ways : Ff := ⟨fun call l H => argA2 (fun t0 t1 => S_vm_Machine_Ways_0 call t0 t1 H) l⟩
/- gantline/verify.Check -/
noncomputable def S_verify_Check_0 (call : CallFn) (t0 : AV) (H : AHeap) : R :=
  pBox t0 H fun t1 H =>
  pNew [(.int .i64 (.ofNat 0)), (.int .i64 (.ofNat 0)), (.int .i64 (.ofNat 0))] H fun t2 H =>
  ldK (.some 6) H t1 fun t4 H =>
  pC call n_verify_Without [t4, .nilsl] H fun t5 H =>
  pExt t5 0 H fun t6 H =>
  pExt t5 1 H fun t7 H =>
  stK 3 H t2 t6 fun _ H =>
  ob (allM (fun o => o) [aLoad (.some 3) H t2, some t7]) fun vs => some (resV vs, H)
noncomputable def S_verify_Check : Ff := ⟨fun call l H => argA1 (fun t0 => S_verify_Check_0 call t0 H) l⟩
/- gantline/cycle.New -/
noncomputable def S_cycle_New_0 (call : CallFn) (t0 : AV) (H : AHeap) : R :=
  pC call n_arena_New [t0] H fun t9 H =>
  pExt t9 0 H fun t10 H =>
  pExt t9 1 H fun t11 H =>
  pNeq t11 (.int .i64 (.ofNat 0)) H fun t13 H =>
  onBool t13 (some (.tup [.nilp, t11], H)) (pC call n_head_New [] H fun t15 H =>
  pC call n_alloc_New [t10] H fun t19 H =>
  pC call n_mark_New [t10, t15] H fun t22 H =>
  pMap H fun t23 H =>
  pO (someAgg (aFill [.nilp, .nilp, .nilp, .nilp, (.int .i64 (.ofNat 0)), .nilmap, (.int .i64 (.ofNat 0)), (.int .i64 (.ofNat 0))] [(0, 1, t10), (1, 1, t15), (2, 1, t19), (3, 1, t22), (5, 1, t23), (7, 1, (.int .i64 (.ofNat 64)))])) H fun t24 H =>
  pBox t24 H fun t25 H =>
  some (.tup [t25, (.int .i64 (.ofNat 0))], H))
noncomputable def S_cycle_New : Ff := ⟨fun call l H => argA1 (fun t0 => S_cycle_New_0 call t0 H) l⟩
/- slices.Clone[[]gantline/head.Shape,gantline/head.Shape] -/
noncomputable def S_slices_Clone_head_Shape_0 (_ : CallFn) (t0 : AV) (H : AHeap) : R :=
  pO (aEq false .sl t0 .nilsl) H fun t4 H =>
  onBool t4 (some (.nilsl, H)) (pN (aBsl 3 0 [(.int .i64 (.ofNat 0)), (.int .i64 (.ofNat 0)), (.int .u64 (.ofNat 0))] []) H fun t5 H =>
  pW (aApp 3 24 H t5 t0) fun t7 H =>
  some (t7, H))
noncomputable def S_slices_Clone_head_Shape : Ff := ⟨fun call l H => argA1 (fun t0 => S_slices_Clone_head_Shape_0 call t0 H) l⟩
/- slices.Clone[[]bool,bool] -/
noncomputable def S_slices_Clone_bool_0 (_ : CallFn) (t0 : AV) (H : AHeap) : R :=
  pO (aEq false .sl t0 .nilsl) H fun t4 H =>
  onBool t4 (some (.nilsl, H)) (pN (aBsl 1 0 [(.bool false)] []) H fun t5 H =>
  pW (aApp 1 1 H t5 t0) fun t7 H =>
  some (t7, H))
noncomputable def S_slices_Clone_bool : Ff := ⟨fun call l H => argA1 (fun t0 => S_slices_Clone_bool_0 call t0 H) l⟩
/- slices.Clone[[]int64,int64] -/
noncomputable def S_slices_Clone_int64_0 (_ : CallFn) (t0 : AV) (H : AHeap) : R :=
  pO (aEq false .sl t0 .nilsl) H fun t4 H =>
  onBool t4 (some (.nilsl, H)) (pN (aBsl 1 0 [(.int .i64 (.ofNat 0))] []) H fun t5 H =>
  pW (aApp 1 8 H t5 t0) fun t7 H =>
  some (t7, H))
noncomputable def S_slices_Clone_int64 : Ff := ⟨fun call l H => argA1 (fun t0 => S_slices_Clone_int64_0 call t0 H) l⟩
/- slices.Clone[[]gantline/code.Case,gantline/code.Case] -/
noncomputable def S_slices_Clone_code_Case_0 (_ : CallFn) (t0 : AV) (H : AHeap) : R :=
  pO (aEq false .sl t0 .nilsl) H fun t4 H =>
  onBool t4 (some (.nilsl, H)) (pN (aBsl 4 0 [(.int .i64 (.ofNat 0)), (.int .i64 (.ofNat 0)), (.int .i64 (.ofNat 0)), (.int .i64 (.ofNat 0))] []) H fun t5 H =>
  pW (aApp 4 32 H t5 t0) fun t7 H =>
  some (t7, H))
noncomputable def S_slices_Clone_code_Case : Ff := ⟨fun call l H => argA1 (fun t0 => S_slices_Clone_code_Case_0 call t0 H) l⟩
/- slices.Clone[[]gantline/code.Func,gantline/code.Func] -/
noncomputable def S_slices_Clone_code_Func_0 (_ : CallFn) (t0 : AV) (H : AHeap) : R :=
  pO (aEq false .sl t0 .nilsl) H fun t4 H =>
  onBool t4 (some (.nilsl, H)) (pN (aBsl 7 0 [(.int .i64 (.ofNat 0)), (.int .i64 (.ofNat 0)), (.int .i64 (.ofNat 0)), (.int .i64 (.ofNat 0)), .nilsl, .nilsl, .nilsl] []) H fun t5 H =>
  pW (aApp 7 104 H t5 t0) fun t7 H =>
  some (t7, H))
noncomputable def S_slices_Clone_code_Func : Ff := ⟨fun call l H => argA1 (fun t0 => S_slices_Clone_code_Func_0 call t0 H) l⟩
/- slices.Clone[[]gantline/code.Instr,gantline/code.Instr] -/
noncomputable def S_slices_Clone_code_Instr_0 (_ : CallFn) (t0 : AV) (H : AHeap) : R :=
  pO (aEq false .sl t0 .nilsl) H fun t4 H =>
  onBool t4 (some (.nilsl, H)) (pN (aBsl 5 0 [(.int .i64 (.ofNat 0)), (.int .i64 (.ofNat 0)), (.int .i64 (.ofNat 0)), (.int .i64 (.ofNat 0)), (.int .i64 (.ofNat 0))] []) H fun t5 H =>
  pW (aApp 5 40 H t5 t0) fun t7 H =>
  some (t7, H))
noncomputable def S_slices_Clone_code_Instr : Ff := ⟨fun call l H => argA1 (fun t0 => S_slices_Clone_code_Instr_0 call t0 H) l⟩
/- slices.Clone[[]uint64,uint64] -/
noncomputable def S_slices_Clone_uint64_0 (_ : CallFn) (t0 : AV) (H : AHeap) : R :=
  pO (aEq false .sl t0 .nilsl) H fun t4 H =>
  onBool t4 (some (.nilsl, H)) (pN (aBsl 1 0 [(.int .u64 (.ofNat 0))] []) H fun t5 H =>
  pW (aApp 1 8 H t5 t0) fun t7 H =>
  some (t7, H))
noncomputable def S_slices_Clone_uint64 : Ff := ⟨fun call l H => argA1 (fun t0 => S_slices_Clone_uint64_0 call t0 H) l⟩
/- gantline/frame.New -/
noncomputable def S_frame_New_0 (call : CallFn) (t0 t1 t2 : AV) (H : AHeap) : R :=
  pBox t0 H fun t3 H =>
  ldK (.some 6) H t3 fun t11 H =>
  pC call n_frame_begin [t11, t1, t2] H fun t14 H =>
  pExt t14 0 H fun t15 H =>
  pExt t14 1 H fun t16 H =>
  pNew [(.int .i64 (.ofNat 0)), (.int .i64 (.ofNat 0)), .nilsl] H fun t8 H =>
  stK 3 H t8 t15 fun _ H =>
  pNeq t16 (.int .i64 (.ofNat 0)) H fun t18 H =>
  onBool t18 (some (.tup [.nilp, t16], H)) (ldK (.some 3) H t8 fun t20 H =>
  pN (aBsl 3 1 [(.int .i64 (.ofNat 0)), (.int .i64 (.ofNat 0)), .nilsl] [(0, 3, t20)]) H fun t21 H =>
  pO (someAgg (aFill [.nilsl] [(0, 1, t21)])) H fun t22 H =>
  pBox t22 H fun t23 H =>
  some (.tup [t23, (.int .i64 (.ofNat 0))], H))
noncomputable def S_frame_New : Ff := ⟨fun call l H => argA3 (fun t0 t1 t2 => S_frame_New_0 call t0 t1 t2 H) l⟩
/- (*gantline/sched.Table).Enabled -/
noncomputable def S_sched_Table_Enabled_0 (call : CallFn) (t0 t1 : AV) (H : AHeap) : R :=
  pBox t0 H fun t2 H =>
  pBox t1 H fun t3 H =>
  ldK .none H t2 fun t5 H =>
  pC call n_sched_Table_IDs [t5] H fun t6 H =>
  pC call n_slices_DeleteFunc_int [t6, (.fn n_sched_Table_Enabled_c1 [] [t2, t3])] H fun t8 H =>
  some (t8, H)
noncomputable def S_sched_Table_Enabled : Ff := ⟨fun call l H => argA2 (fun t0 t1 => S_sched_Table_Enabled_0 call t0 t1 H) l⟩
/- (*gantline/vm.Machine).Next -/
noncomputable def S_vm_Machine_Next_0 (_ : CallFn) (t26 t31 t33 : AV) (H : AHeap) : R :=
  pPick t26 t31 (.bool false) H fun t32 H =>
  some (.tup [t32, t33], H)
noncomputable def S_vm_Machine_Next_1 (call : CallFn) (t26 t27 t28 t30 t33 : AV) (H : AHeap) : R :=
  andR (andB (gdB t26 true (ckV (aLoad .none H t27) t28)) true) (
  guardA t26 true (pC call n_vm_isAct [t28, t30] H fun t31 H =>
  S_vm_Machine_Next_0 call t26 t31 t33 H) (S_vm_Machine_Next_0 call t26 U t33 H))
noncomputable def S_vm_Machine_Next_2 (call : CallFn) (t26 t27 t28 t29 t30005 : AV) (H : AHeap) : R :=
  guardA t26 true (pC call n_frame_Stack_Depth [t29] H fun t30 H =>
  S_vm_Machine_Next_1 call t26 t27 t28 t30 t30005 H) (S_vm_Machine_Next_1 call t26 t27 t28 U t30005 H)
noncomputable def S_vm_Machine_Next_3 (call : CallFn) (t6 t26 t27 t28 t30005 : AV) (H : AHeap) : R :=
  guardA t26 true (S_vm_Machine_Next_2 call t26 t27 t28 t6 t30005 H) (S_vm_Machine_Next_2 call t26 t27 t28 U t30005 H)
noncomputable def S_vm_Machine_Next_4 (call : CallFn) (t6 t26 t27 t30005 : AV) (H : AHeap) : R :=
  guardA t26 true (ldK .none H t27 fun t28 H =>
  S_vm_Machine_Next_3 call t6 t26 t27 t28 t30005 H) (S_vm_Machine_Next_3 call t6 t26 t27 U t30005 H)
noncomputable def S_vm_Machine_Next_5 (call : CallFn) (t0 t1 : AV) (H : AHeap) : R :=
  pO (aNil t0) H fun t9 H =>
  pFa 7 t9 H fun t10 H =>
  ldK .none H t10 fun t11 H =>
  pC call n_sched_Table_Stack [t11, t1] H fun t13 H =>
  pO (aEq false .ptr t13 .nilp) H fun t15 H =>
  onBool t15 (some (.tup [(.bool false), (.bool false)], H)) (pO (aNil t0) H fun t19 H =>
  pFa 0 t19 H fun t20 H =>
  ldK (.some 6) H t20 fun t21 H =>
  pC call n_frame_Stack_At [t13, t21] H fun t22 H =>
  pExt t22 0 H fun t23 H =>
  pExt t22 1 H fun t24 H =>
  pNew [(.int .i64 (.ofNat 0)), (.int .i64 (.ofNat 0)), (.int .i64 (.ofNat 0)), (.int .i64 (.ofNat 0)), (.int .i64 (.ofNat 0))] H fun t7 H =>
  stK 5 H t7 t23 fun _ H =>
  guardA t24 true (pFa 0 t7 H fun t27 H =>
  S_vm_Machine_Next_4 call t13 t24 t27 t24 H) (S_vm_Machine_Next_4 call t13 t24 U t24 H))
noncomputable def S_vm_Machine_Next : Ff := ⟨fun call l H => argA2 (fun t0 t1 => S_vm_Machine_Next_5 call t0 t1 H) l⟩
/- slices.Clone[[]gantline/vm.Act,gantline/vm.Act] -/
noncomputable def S_slices_Clone_vm_Act_0 (_ : CallFn) (t0 : AV) (H : AHeap) : R :=
  pO (aEq false .sl t0 .nilsl) H fun t4 H =>
  onBool t4 (some (.nilsl, H)) (pN (aBsl 7 0 [(.int .i64 (.ofNat 0)), (.int .i64 (.ofNat 0)), (.int .i64 (.ofNat 0)), (.int .i64 (.ofNat 0)), (.int .i64 (.ofNat 0)), (.int .i64 (.ofNat 0)), (.int .i64 (.ofNat 0))] []) H fun t5 H =>
  pW (aApp 7 56 H t5 t0) fun t7 H =>
  some (t7, H))
noncomputable def S_slices_Clone_vm_Act : Ff := ⟨fun call l H => argA1 (fun t0 => S_slices_Clone_vm_Act_0 call t0 H) l⟩
/- (*gantline/sched.Table).Ways -/
noncomputable def S_sched_Table_Ways_0 (_ : CallFn) (t11 t12 t74 t76 : AV) (H : AHeap) : R :=
  pPick t74 t76 (.bool false) H fun t77 H =>
  onBool t77 (pO (someAgg (aFill [(.int .i64 (.ofNat 0)), (.int .i64 (.ofNat 0)), (.int .i64 (.ofNat 0))] [(0, 1, t11), (1, 1, (.int .i64 (.ofNat 0))), (2, 1, (.int .i64 (.negSucc 0)))])) H fun t79 H =>
  pN (aBsl 3 1 [(.int .i64 (.ofNat 0)), (.int .i64 (.ofNat 0)), (.int .i64 (.ofNat 0))] [(0, 3, t79)]) H fun t80 H =>
  some (t80, H)) (some (t12, H))
noncomputable def S_sched_Table_Ways_1 (call : CallFn) (t11 t12 : AV) (H : AHeap) : R :=
  pO (aLen .sl H t12) H fun t72 H =>
  pEql t72 (.int .i64 (.ofNat 0)) H fun t73 H =>
  guardA t73 true (pNeq t11 (.int .i64 (.negSucc 0)) H fun t76 H =>
  S_sched_Table_Ways_0 call t11 t12 t73 t76 H) (S_sched_Table_Ways_0 call t11 t12 t73 U H)
noncomputable def S_sched_Table_Ways_2 (call : CallFn) (n : Nat) : AV → AV → AV → AV → AV → AV → AV → AV → AHeap → R :=
  Nat.rec (motive := fun _ => AV → AV → AV → AV → AV → AV → AV → AV → AHeap → R) (fun _ _ _ _ _ _ _ _ _ => none) (fun _ q0 t0 t1 t2 t11 t12 t57 t58 t59 H => pLss t59 t58 H fun t60 H =>
  onBool t60 (pIa 4 t57 t59 H fun t61 H =>
  ldK (.some 4) H t61 fun t62 H =>
  pNew [(.int .i64 (.ofNat 0)), (.bool false), (.int .i64 (.ofNat 0)), (.bool false)] H fun t14 H =>
  stK 4 H t14 t62 fun _ H =>
  ldK (.some 4) H t14 fun t67 H =>
  pC call n_sched_Table_ways [t0, t1, t2, t67] H fun t68 H =>
  pW (aApp 3 24 H t12 t68) fun t69 H =>
  pAdd t59 (.int .i64 (.ofNat 1)) H fun t70 H =>
  q0 t0 t1 t2 t11 t69 t57 t58 t70 H) (S_sched_Table_Ways_1 call t11 t12 H)) n
noncomputable def S_sched_Table_Ways_3 (call : CallFn) (t0 t1 t2 t7 t8 t42 t45 : AV) (H : AHeap) : R :=
  pPick t42 t45 (.bool false) H fun t46 H =>
  onBool t46 (pO (someAgg (aFill [(.int .i64 (.ofNat 0)), (.int .i64 (.ofNat 0)), (.int .i64 (.ofNat 0))] [(0, 1, (.int .i64 (.negSucc 0))), (1, 1, (.int .i64 (.ofNat 0))), (2, 1, (.int .i64 (.negSucc 0)))])) H fun t47 H =>
  pN (aBsl 3 1 [(.int .i64 (.ofNat 0)), (.int .i64 (.ofNat 0)), (.int .i64 (.ofNat 0))] [(0, 3, t47)]) H fun t48 H =>
  some (t48, H)) (ldK (.some 5) H t8 fun t53 H =>
  pC call n_sched_Table_offers [t0, t1, t7, t53] H fun t54 H =>
  pExt t54 0 H fun t55 H =>
  pExt t54 1 H fun t56 H =>
  pO (aLen .sl H t55) H fun t58 H =>
  S_sched_Table_Ways_2 call 1000000 t0 t1 t2 t56 .nilsl t55 t58 (.int .i64 (.ofNat 0)) H)
noncomputable def S_sched_Table_Ways_4 (call : CallFn) (t0 t1 t2 t7 t8 t37 t40 : AV) (H : AHeap) : R :=
  pPick t37 t40 (.bool false) H fun t41 H =>
  guardA t41 true (pFa 0 t8 H fun t43 H =>
  ldK .none H t43 fun t44 H =>
  pNeq t44 (.int .i64 (.ofNat 41)) H fun t45 H =>
  S_sched_Table_Ways_3 call t0 t1 t2 t7 t8 t41 t45 H) (S_sched_Table_Ways_3 call t0 t1 t2 t7 t8 t41 U H)
noncomputable def S_sched_Table_Ways_5 (call : CallFn) (t0 t1 t2 : AV) (H : AHeap) : R :=
  pO (aNil t0) H fun t16 H =>
  pFa 6 t16 H fun t17 H =>
  ldK .none H t17 fun t18 H =>
  pO (aLook .int .nilp false H t18 t2) H fun t20 H =>
  pO (aEq false .ptr t20 .nilp) H fun t22 H =>
  onBool t22 (some (.nilsl, H)) (pO (aNil t0) H fun t26 H =>
  pFa 0 t26 H fun t27 H =>
  ldK (.some 6) H t27 fun t28 H =>
  pC call n_frame_Stack_At [t20, t28] H fun t29 H =>
  pExt t29 0 H fun t30 H =>
  pExt t29 1 H fun t31 H =>
  pNew [(.int .i64 (.ofNat 0)), (.int .i64 (.ofNat 0)), (.int .i64 (.ofNat 0)), (.int .i64 (.ofNat 0)), (.int .i64 (.ofNat 0))] H fun t8 H =>
  stK 5 H t8 t30 fun _ H =>
  pO (aUn .not t31) H fun t33 H =>
  onBool t33 (some (.nilsl, H)) (pFa 0 t8 H fun t34 H =>
  ldK .none H t34 fun t35 H =>
  pNeq t35 (.int .i64 (.ofNat 38)) H fun t36 H =>
  guardA t36 true (pFa 0 t8 H fun t38 H =>
  ldK .none H t38 fun t39 H =>
  pNeq t39 (.int .i64 (.ofNat 39)) H fun t40 H =>
  S_sched_Table_Ways_4 call t0 t1 t2 t20 t8 t36 t40 H) (S_sched_Table_Ways_4 call t0 t1 t2 t20 t8 t36 U H)))
noncomputable def S_sched_Table_Ways : Ff := ⟨fun call l H => argA3 (fun t0 t1 t2 => S_sched_Table_Ways_5 call t0 t1 t2 H) l⟩
/- internal/strconv.FormatInt -/
noncomputable def S_internal_strconv_FormatInt_0 (call : CallFn) (t0 t5 t6 : AV) (H : AHeap) : R :=
  pC call n_internal_strconv_numDigits [t6] H fun t27 H =>
  pAdd (.int .i64 (.ofNat 1)) t27 H fun t29 H =>
  pO (aSliceA 1 24 t5 (.some (.int .i64 (.ofNat 1))) (.some t29) .none) H fun t30 H =>
  pC call n_internal_strconv_formatBase10 [t30, t6] H fun _ H =>
  pLss t0 (.int .i64 (.ofNat 0)) H fun t34 H =>
  onBool t34 (pIaA 1 24 t5 (.int .i64 (.ofNat 0)) H fun t35 H =>
  stK 1 H t35 (.int .u8 (.ofNat 45)) fun _ H =>
  pAdd (.int .i64 (.ofNat 1)) t27 H fun t37 H =>
  pO (aSliceA 1 24 t5 .none (.some t37) .none) H fun t38 H =>
  pO (strOnly t38) H fun t39 H =>
  some (t39, H)) (pAdd (.int .i64 (.ofNat 1)) t27 H fun t41 H =>
  pO (aSliceA 1 24 t5 (.some (.int .i64 (.ofNat 1))) (.some t41) .none) H fun t42 H =>
  pO (strOnly t42) H fun t43 H =>
  some (t43, H))
noncomputable def S_internal_strconv_FormatInt_1 (call : CallFn) (t0 t14 t16 : AV) (H : AHeap) : R :=
  pPick t14 t16 (.bool false) H fun t17 H =>
  onBool t17 (pC call n_internal_strconv_small [t0] H fun t19 H =>
  some (t19, H)) (pNew [(.int .u8 (.ofNat 0)), (.int .u8 (.ofNat 0)), (.int .u8 (.ofNat 0)), (.int .u8 (.ofNat 0)), (.int .u8 (.ofNat 0)), (.int .u8 (.ofNat 0)), (.int .u8 (.ofNat 0)), (.int .u8 (.ofNat 0)), (.int .u8 (.ofNat 0)), (.int .u8 (.ofNat 0)), (.int .u8 (.ofNat 0)), (.int .u8 (.ofNat 0)), (.int .u8 (.ofNat 0)), (.int .u8 (.ofNat 0)), (.int .u8 (.ofNat 0)), (.int .u8 (.ofNat 0)), (.int .u8 (.ofNat 0)), (.int .u8 (.ofNat 0)), (.int .u8 (.ofNat 0)), (.int .u8 (.ofNat 0)), (.int .u8 (.ofNat 0)), (.int .u8 (.ofNat 0)), (.int .u8 (.ofNat 0)), (.int .u8 (.ofNat 0))] H fun t5 H =>
  pConv .u64 t0 H fun t21 H =>
  pLss t0 (.int .i64 (.ofNat 0)) H fun t23 H =>
  onBool t23 (pO (aUn .neg t21) H fun t25 H =>
  S_internal_strconv_FormatInt_0 call t0 t5 t25 H) (S_internal_strconv_FormatInt_0 call t0 t5 t21 H))
noncomputable def S_internal_strconv_FormatInt_2 (call : CallFn) (t0 t1 : AV) (H : AHeap) : R :=
  pEql t1 (.int .i64 (.ofNat 10)) H fun t11 H =>
  onBool t11 (pLeq (.int .i64 (.ofNat 0)) t0 H fun t13 H =>
  guardA t13 true (pLss t0 (.int .i64 (.ofNat 100)) H fun t16 H =>
  S_internal_strconv_FormatInt_1 call t0 t13 t16 H) (S_internal_strconv_FormatInt_1 call t0 t13 U H)) (pConv .u64 t0 H fun t46 H =>
  pLss t0 (.int .i64 (.ofNat 0)) H fun t49 H =>
  pC call n_internal_strconv_formatBits [.nilsl, t46, t1, t49, (.bool false)] H fun t50 H =>
  pExt t50 0 H fun _ H =>
  pExt t50 1 H fun t52 H =>
  some (t52, H))
noncomputable def S_internal_strconv_FormatInt : Ff := ⟨fun call l H => argA2 (fun t0 t1 => S_internal_strconv_FormatInt_2 call t0 t1 H) l⟩
/- (*gantline/sched.Table).Stack -/
noncomputable def S_sched_Table_Stack_0 (_ : CallFn) (t0 t1 : AV) (H : AHeap) : R :=
  pO (aNil t0) H fun t6 H =>
  pFa 6 t6 H fun t7 H =>
  ldK .none H t7 fun t8 H =>
  pO (aLook .int .nilp false H t8 t1) H fun t10 H =>
  some (t10, H)
noncomputable def S_sched_Table_Stack : Ff := ⟨fun call l H => argA2 (fun t0 t1 => S_sched_Table_Stack_0 call t0 t1 H) l⟩
/- (*gantline/frame.Stack).At -/
noncomputable def S_frame_Stack_At_0 (_ : CallFn) (t3 t4 t6 t35 t50 : AV) (H : AHeap) : R :=
  pPick t35 (.bool true) t50 H fun t51 H =>
  onBool t51 (pO (someAgg (aFill [(.int .i64 (.ofNat 0)), (.int .i64 (.ofNat 0)), (.int .i64 (.ofNat 0)), (.int .i64 (.ofNat 0)), (.int .i64 (.ofNat 0))] [])) H fun t52 H =>
  stK 5 H t4 t52 fun _ H =>
  ob (allM (fun o => o) [aLoad (.some 5) H t4, some (.bool false)]) fun vs => some (resV vs, H)) (pFa 4 t3 H fun t53 H =>
  ldK .none H t53 fun t54 H =>
  pO (aNil t6) H fun t56 H =>
  pFa 0 t56 H fun t57 H =>
  ldK .none H t57 fun t58 H =>
  pIa 7 t54 t58 H fun t59 H =>
  pFa 5 t59 H fun t60 H =>
  ldK .none H t60 fun t61 H =>
  pO (aNil t6) H fun t63 H =>
  pFa 1 t63 H fun t64 H =>
  ldK .none H t64 fun t65 H =>
  pIa 5 t61 t65 H fun t66 H =>
  ldK (.some 5) H t66 fun t67 H =>
  stK 5 H t4 t67 fun _ H =>
  ob (allM (fun o => o) [aLoad (.some 5) H t4, some (.bool true)]) fun vs => some (resV vs, H))
noncomputable def S_frame_Stack_At_1 (call : CallFn) (t3 t4 t6 t35 t39 t49 : AV) (H : AHeap) : R :=
  guardA t35 false (pGeq t39 t49 H fun t50 H =>
  S_frame_Stack_At_0 call t3 t4 t6 t35 t50 H) (S_frame_Stack_At_0 call t3 t4 t6 t35 U H)
noncomputable def S_frame_Stack_At_2 (call : CallFn) (t3 t4 t6 t35 t39 t48 : AV) (H : AHeap) : R :=
  guardA t35 false (pO (aLen .sl H t48) H fun t49 H =>
  S_frame_Stack_At_1 call t3 t4 t6 t35 t39 t49 H) (S_frame_Stack_At_1 call t3 t4 t6 t35 t39 U H)
noncomputable def S_frame_Stack_At_3 (call : CallFn) (t3 t4 t6 t35 t39 t47 : AV) (H : AHeap) : R :=
  guardA t35 false (ldK .none H t47 fun t48 H =>
  S_frame_Stack_At_2 call t3 t4 t6 t35 t39 t48 H) (S_frame_Stack_At_2 call t3 t4 t6 t35 t39 U H)
noncomputable def S_frame_Stack_At_4 (call : CallFn) (t3 t4 t6 t35 t39 t46 : AV) (H : AHeap) : R :=
  guardA t35 false (pFa 5 t46 H fun t47 H =>
  S_frame_Stack_At_3 call t3 t4 t6 t35 t39 t47 H) (S_frame_Stack_At_3 call t3 t4 t6 t35 t39 U H)
noncomputable def S_frame_Stack_At_5 (call : CallFn) (t3 t4 t6 t35 t39 t41 t45 : AV) (H : AHeap) : R :=
  guardA t35 false (pIa 7 t41 t45 H fun t46 H =>
  S_frame_Stack_At_4 call t3 t4 t6 t35 t39 t46 H) (S_frame_Stack_At_4 call t3 t4 t6 t35 t39 U H)
noncomputable def S_frame_Stack_At_6 (call : CallFn) (t3 t4 t6 t35 t39 t41 t44 : AV) (H : AHeap) : R :=
  guardA t35 false (ldK .none H t44 fun t45 H =>
  S_frame_Stack_At_5 call t3 t4 t6 t35 t39 t41 t45 H) (S_frame_Stack_At_5 call t3 t4 t6 t35 t39 t41 U H)
noncomputable def S_frame_Stack_At_7 (call : CallFn) (t3 t4 t6 t35 t39 t41 t43 : AV) (H : AHeap) : R :=
  guardA t35 false (pFa 0 t43 H fun t44 H =>
  S_frame_Stack_At_6 call t3 t4 t6 t35 t39 t41 t44 H) (S_frame_Stack_At_6 call t3 t4 t6 t35 t39 t41 U H)
noncomputable def S_frame_Stack_At_8 (call : CallFn) (t3 t4 t6 t35 t39 t41 t42 : AV) (H : AHeap) : R :=
  guardA t35 false (pO (aNil t42) H fun t43 H =>
  S_frame_Stack_At_7 call t3 t4 t6 t35 t39 t41 t43 H) (S_frame_Stack_At_7 call t3 t4 t6 t35 t39 t41 U H)
noncomputable def S_frame_Stack_At_9 (call : CallFn) (t3 t4 t6 t35 t39 t41 : AV) (H : AHeap) : R :=
  guardA t35 false (S_frame_Stack_At_8 call t3 t4 t6 t35 t39 t41 t6 H) (S_frame_Stack_At_8 call t3 t4 t6 t35 t39 t41 U H)
noncomputable def S_frame_Stack_At_10 (call : CallFn) (t3 t4 t6 t35 t39 t40 : AV) (H : AHeap) : R :=
  guardA t35 false (ldK .none H t40 fun t41 H =>
  S_frame_Stack_At_9 call t3 t4 t6 t35 t39 t41 H) (S_frame_Stack_At_9 call t3 t4 t6 t35 t39 U H)
noncomputable def S_frame_Stack_At_11 (call : CallFn) (t3 t4 t6 t35 t39 : AV) (H : AHeap) : R :=
  guardA t35 false (pFa 4 t3 H fun t40 H =>
  S_frame_Stack_At_10 call t3 t4 t6 t35 t39 t40 H) (S_frame_Stack_At_10 call t3 t4 t6 t35 t39 U H)
noncomputable def S_frame_Stack_At_12 (call : CallFn) (t3 t4 t6 t35 t38 : AV) (H : AHeap) : R :=
  guardA t35 false (ldK .none H t38 fun t39 H =>
  S_frame_Stack_At_11 call t3 t4 t6 t35 t39 H) (S_frame_Stack_At_11 call t3 t4 t6 t35 U H)
noncomputable def S_frame_Stack_At_13 (call : CallFn) (t3 t4 t6 t35 t37 : AV) (H : AHeap) : R :=
  guardA t35 false (pFa 1 t37 H fun t38 H =>
  S_frame_Stack_At_12 call t3 t4 t6 t35 t38 H) (S_frame_Stack_At_12 call t3 t4 t6 t35 U H)
noncomputable def S_frame_Stack_At_14 (call : CallFn) (t3 t4 t6 t35 t36 : AV) (H : AHeap) : R :=
  guardA t35 false (pO (aNil t36) H fun t37 H =>
  S_frame_Stack_At_13 call t3 t4 t6 t35 t37 H) (S_frame_Stack_At_13 call t3 t4 t6 t35 U H)
noncomputable def S_frame_Stack_At_15 (call : CallFn) (t3 t4 t6 t28 t33 : AV) (H : AHeap) : R :=
  pPick t28 (.bool true) t33 H fun t34 H =>
  guardA t34 false (S_frame_Stack_At_14 call t3 t4 t6 t34 t6 H) (S_frame_Stack_At_14 call t3 t4 t6 t34 U H)
noncomputable def S_frame_Stack_At_16 (call : CallFn) (t3 t4 t6 t28 t32 : AV) (H : AHeap) : R :=
  guardA t28 false (pLss t32 (.int .i64 (.ofNat 0)) H fun t33 H =>
  S_frame_Stack_At_15 call t3 t4 t6 t28 t33 H) (S_frame_Stack_At_15 call t3 t4 t6 t28 U H)
noncomputable def S_frame_Stack_At_17 (call : CallFn) (t3 t4 t6 t28 t31 : AV) (H : AHeap) : R :=
  guardA t28 false (ldK .none H t31 fun t32 H =>
  S_frame_Stack_At_16 call t3 t4 t6 t28 t32 H) (S_frame_Stack_At_16 call t3 t4 t6 t28 U H)
noncomputable def S_frame_Stack_At_18 (call : CallFn) (t3 t4 t6 t28 t30 : AV) (H : AHeap) : R :=
  guardA t28 false (pFa 1 t30 H fun t31 H =>
  S_frame_Stack_At_17 call t3 t4 t6 t28 t31 H) (S_frame_Stack_At_17 call t3 t4 t6 t28 U H)
noncomputable def S_frame_Stack_At_19 (call : CallFn) (t3 t4 t6 t28 t29 : AV) (H : AHeap) : R :=
  guardA t28 false (pO (aNil t29) H fun t30 H =>
  S_frame_Stack_At_18 call t3 t4 t6 t28 t30 H) (S_frame_Stack_At_18 call t3 t4 t6 t28 U H)
noncomputable def S_frame_Stack_At_20 (call : CallFn) (t3 t4 t6 t18 t26 : AV) (H : AHeap) : R :=
  pPick t18 (.bool true) t26 H fun t27 H =>
  guardA t27 false (S_frame_Stack_At_19 call t3 t4 t6 t27 t6 H) (S_frame_Stack_At_19 call t3 t4 t6 t27 U H)
noncomputable def S_frame_Stack_At_21 (call : CallFn) (t3 t4 t6 t18 t22 t25 : AV) (H : AHeap) : R :=
  guardA t18 false (pGeq t22 t25 H fun t26 H =>
  S_frame_Stack_At_20 call t3 t4 t6 t18 t26 H) (S_frame_Stack_At_20 call t3 t4 t6 t18 U H)
noncomputable def S_frame_Stack_At_22 (call : CallFn) (t3 t4 t6 t18 t22 t24 : AV) (H : AHeap) : R :=
  guardA t18 false (pO (aLen .sl H t24) H fun t25 H =>
  S_frame_Stack_At_21 call t3 t4 t6 t18 t22 t25 H) (S_frame_Stack_At_21 call t3 t4 t6 t18 t22 U H)
noncomputable def S_frame_Stack_At_23 (call : CallFn) (t3 t4 t6 t18 t22 t23 : AV) (H : AHeap) : R :=
  guardA t18 false (ldK .none H t23 fun t24 H =>
  S_frame_Stack_At_22 call t3 t4 t6 t18 t22 t24 H) (S_frame_Stack_At_22 call t3 t4 t6 t18 t22 U H)
noncomputable def S_frame_Stack_At_24 (call : CallFn) (t3 t4 t6 t18 t22 : AV) (H : AHeap) : R :=
  guardA t18 false (pFa 4 t3 H fun t23 H =>
  S_frame_Stack_At_23 call t3 t4 t6 t18 t22 t23 H) (S_frame_Stack_At_23 call t3 t4 t6 t18 t22 U H)
noncomputable def S_frame_Stack_At_25 (call : CallFn) (t3 t4 t6 t18 t21 : AV) (H : AHeap) : R :=
  guardA t18 false (ldK .none H t21 fun t22 H =>
  S_frame_Stack_At_24 call t3 t4 t6 t18 t22 H) (S_frame_Stack_At_24 call t3 t4 t6 t18 U H)
noncomputable def S_frame_Stack_At_26 (call : CallFn) (t3 t4 t6 t18 t20 : AV) (H : AHeap) : R :=
  guardA t18 false (pFa 0 t20 H fun t21 H =>
  S_frame_Stack_At_25 call t3 t4 t6 t18 t21 H) (S_frame_Stack_At_25 call t3 t4 t6 t18 U H)
noncomputable def S_frame_Stack_At_27 (call : CallFn) (t3 t4 t6 t18 t19 : AV) (H : AHeap) : R :=
  guardA t18 false (pO (aNil t19) H fun t20 H =>
  S_frame_Stack_At_26 call t3 t4 t6 t18 t20 H) (S_frame_Stack_At_26 call t3 t4 t6 t18 U H)
noncomputable def S_frame_Stack_At_28 (call : CallFn) (t3 t4 t6 t11 t16 : AV) (H : AHeap) : R :=
  pPick t11 (.bool true) t16 H fun t17 H =>
  guardA t17 false (S_frame_Stack_At_27 call t3 t4 t6 t17 t6 H) (S_frame_Stack_At_27 call t3 t4 t6 t17 U H)
noncomputable def S_frame_Stack_At_29 (call : CallFn) (t3 t4 t6 t11 t15 : AV) (H : AHeap) : R :=
  guardA t11 false (pLss t15 (.int .i64 (.ofNat 0)) H fun t16 H =>
  S_frame_Stack_At_28 call t3 t4 t6 t11 t16 H) (S_frame_Stack_At_28 call t3 t4 t6 t11 U H)
noncomputable def S_frame_Stack_At_30 (call : CallFn) (t3 t4 t6 t11 t14 : AV) (H : AHeap) : R :=
  guardA t11 false (ldK .none H t14 fun t15 H =>
  S_frame_Stack_At_29 call t3 t4 t6 t11 t15 H) (S_frame_Stack_At_29 call t3 t4 t6 t11 U H)
noncomputable def S_frame_Stack_At_31 (call : CallFn) (t3 t4 t6 t11 t13 : AV) (H : AHeap) : R :=
  guardA t11 false (pFa 0 t13 H fun t14 H =>
  S_frame_Stack_At_30 call t3 t4 t6 t11 t14 H) (S_frame_Stack_At_30 call t3 t4 t6 t11 U H)
noncomputable def S_frame_Stack_At_32 (call : CallFn) (t3 t4 t6 t11 t12 : AV) (H : AHeap) : R :=
  guardA t11 false (pO (aNil t12) H fun t13 H =>
  S_frame_Stack_At_31 call t3 t4 t6 t11 t13 H) (S_frame_Stack_At_31 call t3 t4 t6 t11 U H)
noncomputable def S_frame_Stack_At_33 (call : CallFn) (t0 t1 : AV) (H : AHeap) : R :=
  pBox t1 H fun t3 H =>
  pNew [(.int .i64 (.ofNat 0)), (.int .i64 (.ofNat 0)), (.int .i64 (.ofNat 0)), (.int .i64 (.ofNat 0)), (.int .i64 (.ofNat 0))] H fun t4 H =>
  pC call n_frame_Stack_top [t0] H fun t8 H =>
  pO (aEq false .ptr t8 .nilp) H fun t10 H =>
  guardA t10 false (S_frame_Stack_At_32 call t3 t4 t8 t10 t8 H) (S_frame_Stack_At_32 call t3 t4 t8 t10 U H)
noncomputable def S_frame_Stack_At : Ff := ⟨fun call l H => argA2 (fun t0 t1 => S_frame_Stack_At_33 call t0 t1 H) l⟩
/- (*gantline/frame.Stack).Top -/
noncomputable def S_frame_Stack_Top_0 (call : CallFn) (t0 : AV) (H : AHeap) : R :=
  pNew [(.int .i64 (.ofNat 0)), (.int .i64 (.ofNat 0)), .nilsl] H fun t2 H =>
  pC call n_frame_Stack_top [t0] H fun t6 H =>
  pO (aEq false .ptr t6 .nilp) H fun t8 H =>
  onBool t8 (pO (someAgg (aFill [(.int .i64 (.ofNat 0)), (.int .i64 (.ofNat 0)), .nilsl] [])) H fun t9 H =>
  stK 3 H t2 t9 fun _ H =>
  ob (allM (fun o => o) [aLoad (.some 3) H t2, some (.bool false)]) fun vs => some (resV vs, H)) (pO (aNil t6) H fun t11 H =>
  ldK (.some 3) H t11 fun t12 H =>
  pC call n_frame_clone [t12] H fun t13 H =>
  stK 3 H t2 t13 fun _ H =>
  ob (allM (fun o => o) [aLoad (.some 3) H t2, some (.bool true)]) fun vs => some (resV vs, H))
noncomputable def S_frame_Stack_Top : Ff := ⟨fun call l H => argA1 (fun t0 => S_frame_Stack_Top_0 call t0 H) l⟩
/- gantline/vm.isAct -/
noncomputable def S_vm_isAct_0 (_ : CallFn) (t15 t21 : AV) (H : AHeap) : R :=
  pPick t15 (.bool true) t21 H fun t22 H =>
  some (t22, H)
noncomputable def S_vm_isAct_1 (call : CallFn) (t15 t18 t20 : AV) (H : AHeap) : R :=
  guardA t15 false (pPick t18 t20 (.bool false) H fun t21 H =>
  S_vm_isAct_0 call t15 t21 H) (S_vm_isAct_0 call t15 U H)
noncomputable def S_vm_isAct_2 (call : CallFn) (t1 t15 t18 : AV) (H : AHeap) : R :=
  guardA t18 true (pEql t1 (.int .i64 (.ofNat 1)) H fun t20 H =>
  S_vm_isAct_1 call t15 t18 t20 H) (S_vm_isAct_1 call t15 t18 U H)
noncomputable def S_vm_isAct_3 (call : CallFn) (t0 t1 t11 t13 : AV) (H : AHeap) : R :=
  pPick t11 t13 (.bool false) H fun t14 H =>
  guardA t14 false (pEql t0 (.int .i64 (.ofNat 22)) H fun t17 H =>
  S_vm_isAct_2 call t1 t14 t17 H) (S_vm_isAct_2 call t1 t14 U H)
noncomputable def S_vm_isAct_4 (call : CallFn) (t0 t1 t7 t9 : AV) (H : AHeap) : R :=
  pPick t7 t9 (.bool false) H fun t10 H =>
  guardA t10 true (pNeq t0 (.int .i64 (.ofNat 36)) H fun t13 H =>
  S_vm_isAct_3 call t0 t1 t10 t13 H) (S_vm_isAct_3 call t0 t1 t10 U H)
noncomputable def S_vm_isAct_5 (call : CallFn) (t0 t1 : AV) (H : AHeap) : R :=
  pGeq t0 (.int .i64 (.ofNat 23)) H fun t6 H =>
  guardA t6 true (pLeq t0 (.int .i64 (.ofNat 42)) H fun t9 H =>
  S_vm_isAct_4 call t0 t1 t6 t9 H) (S_vm_isAct_4 call t0 t1 t6 U H)
noncomputable def S_vm_isAct : Ff := ⟨fun call l H => argA2 (fun t0 t1 => S_vm_isAct_5 call t0 t1 H) l⟩
/- (*gantline/frame.Stack).Depth -/
noncomputable def S_frame_Stack_Depth_0 (_ : CallFn) (t0 : AV) (H : AHeap) : R :=
  pO (aNil t0) H fun t4 H =>
  pFa 0 t4 H fun t5 H =>
  ldK .none H t5 fun t6 H =>
  pO (aLen .sl H t6) H fun t7 H =>
  some (t7, H)
noncomputable def S_frame_Stack_Depth : Ff := ⟨fun call l H => argA1 (fun t0 => S_frame_Stack_Depth_0 call t0 H) l⟩
/- (*gantline/vm.doing).do -/
noncomputable def S_vm_doing_do_0 (call : CallFn) (t0 : AV) (H : AHeap) : R :=
  pC call n_vm_doing_on [t0] H fun _ H =>
  some (.tup [], H)
noncomputable def S_vm_doing_do_1 (call : CallFn) (t0 t2 t35 t37 : AV) (H : AHeap) : R :=
  pPick t35 (.bool true) t37 H fun t38 H =>
  onBool t38 (pC call n_vm_doing_make [t0] H fun _ H =>
  some (.tup [], H)) (pLeq t2 (.int .i64 (.ofNat 35)) H fun t43 H =>
  onBool t43 (pC call n_vm_doing_fields [t0] H fun _ H =>
  some (.tup [], H)) (pEql t2 (.int .i64 (.ofNat 42)) H fun t48 H =>
  onBool t48 (pO (aNil t0) H fun t50 H =>
  pFa 0 t50 H fun t51 H =>
  ldK .none H t51 fun t52 H =>
  pO (aNil t52) H fun t53 H =>
  pFa 9 t53 H fun t54 H =>
  ldK .none H t54 fun t55 H =>
  pO (aLen .sl H t55) H fun t56 H =>
  pLss t56 (.int .i64 (.ofNat 65536)) H fun t57 H =>
  onBool t57 (pO (aNil t0) H fun t59 H =>
  pFa 0 t59 H fun t60 H =>
  ldK .none H t60 fun t61 H =>
  pO (aNil t0) H fun t63 H =>
  pFa 0 t63 H fun t64 H =>
  ldK .none H t64 fun t65 H =>
  pO (aNil t65) H fun t66 H =>
  pFa 9 t66 H fun t67 H =>
  ldK .none H t67 fun t68 H =>
  pO (aNil t0) H fun t70 H =>
  pFa 2 t70 H fun t71 H =>
  ldK .none H t71 fun t72 H =>
  pO (aNil t0) H fun t74 H =>
  pFa 3 t74 H fun t75 H =>
  pFa 1 t75 H fun t76 H =>
  ldK .none H t76 fun t77 H =>
  pC call n_frame_Stack_Get [t72, t77] H fun t78 H =>
  andR (andB (ckV (aLoad .none H t60) t61) (andB (ckV (aLoad .none H t64) t65) (andB (ckV (aLoad .none H t67) t68) true))) (
  pN (aBsl 1 1 [(.int .i64 (.ofNat 0))] [(0, 1, t78)]) H fun t79 H =>
  pW (aApp 1 8 H t68 t79) fun t80 H =>
  andR (andB (ckV (aLoad .none H t60) t61) true) (
  pO (aNil t61) H fun t81 H =>
  pFa 9 t81 H fun t82 H =>
  stK 1 H t82 t80 fun _ H =>
  S_vm_doing_do_0 call t0 H))) (S_vm_doing_do_0 call t0 H)) (pEql t2 (.int .i64 (.ofNat 44)) H fun t87 H =>
  onBool t87 (pO (aNil t0) H fun t89 H =>
  pFa 0 t89 H fun t90 H =>
  ldK .none H t90 fun t91 H =>
  pO (aNil t0) H fun t93 H =>
  pFa 3 t93 H fun t94 H =>
  pFa 1 t94 H fun t95 H =>
  ldK .none H t95 fun t96 H =>
  pC call n_vm_Machine_fall [t91, t96] H fun _ H =>
  some (.tup [], H)) (pC call n_vm_doing_channels [t0] H fun _ H =>
  some (.tup [], H)))))
noncomputable def S_vm_doing_do_2 (call : CallFn) (t0 t2 t31 t33 : AV) (H : AHeap) : R :=
  pPick t31 (.bool true) t33 H fun t34 H =>
  guardA t34 false (pEql t2 (.int .i64 (.ofNat 37)) H fun t37 H =>
  S_vm_doing_do_1 call t0 t2 t34 t37 H) (S_vm_doing_do_1 call t0 t2 t34 U H)
noncomputable def S_vm_doing_do_3 (call : CallFn) (t0 t2 t27 t29 : AV) (H : AHeap) : R :=
  pPick t27 (.bool true) t29 H fun t30 H =>
  guardA t30 false (pEql t2 (.int .i64 (.ofNat 36)) H fun t33 H =>
  S_vm_doing_do_2 call t0 t2 t30 t33 H) (S_vm_doing_do_2 call t0 t2 t30 U H)
noncomputable def S_vm_doing_do_4 (call : CallFn) (t0 t2 t13 t15 : AV) (H : AHeap) : R :=
  pPick t13 (.bool true) t15 H fun t16 H =>
  onBool t16 (pC call n_vm_doing_plain [t0] H fun _ H =>
  some (.tup [], H)) (pLeq t2 (.int .i64 (.ofNat 24)) H fun t21 H =>
  onBool t21 (pC call n_vm_doing_calls [t0] H fun _ H =>
  some (.tup [], H)) (pEql t2 (.int .i64 (.ofNat 25)) H fun t26 H =>
  guardA t26 false (pEql t2 (.int .i64 (.ofNat 26)) H fun t29 H =>
  S_vm_doing_do_3 call t0 t2 t26 t29 H) (S_vm_doing_do_3 call t0 t2 t26 U H)))
noncomputable def S_vm_doing_do_5 (call : CallFn) (t0 : AV) (H : AHeap) : R :=
  pO (aNil t0) H fun t4 H =>
  pFa 3 t4 H fun t5 H =>
  pFa 0 t5 H fun t6 H =>
  ldK .none H t6 fun t7 H =>
  pLeq t7 (.int .i64 (.ofNat 19)) H fun t12 H =>
  guardA t12 false (pEql t7 (.int .i64 (.ofNat 43)) H fun t15 H =>
  S_vm_doing_do_4 call t0 t7 t12 t15 H) (S_vm_doing_do_4 call t0 t7 t12 U H)
noncomputable def S_vm_doing_do : Ff := ⟨fun call l H => argA1 (fun t0 => S_vm_doing_do_5 call t0 H) l⟩
end Go.Proofs.YtdccenbljfanpaaGreatDoor
