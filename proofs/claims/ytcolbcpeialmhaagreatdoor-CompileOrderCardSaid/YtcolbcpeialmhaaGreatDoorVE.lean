/- Plain functions, printed. -/
import Derived.Test.YtcolbcpeialmhaaGreatDoorA2
import Derived.Test.YtcolbcpeialmhaaGreatDoorProg
import Derived.Test.YtcolbcpeialmhaaGreatDoorVF
import Derived.KernelRfl
namespace Go.Proofs.YtcolbcpeialmhaaGreatDoor
open Go.Ab
noncomputable section
set_option maxRecDepth 100000
def S445_0 (_ : CallFn) (t15 t19 : AV) (H : AHeap) : R :=
 pPick t15 t19 (.bool false) H fun t20 H =>
 some (t20, H)
def S445_1 (call : CallFn) (t0 t1 t11 t13 : AV) (H : AHeap) : R :=
 pPick t11 t13 (.bool false) H fun t14 H =>
 guardA t14 true (pSub (iN 64) t1 H fun t18 H =>
 pLeq t0 t18 H fun t19 H =>
 S445_0 call t14 t19 H) (S445_0 call t14 U H)
def S445_2 (call : CallFn) (t0 t1 t7 t9 : AV) (H : AHeap) : R :=
 pPick t7 t9 (.bool false) H fun t10 H =>
 guardA t10 true (pLeq t1 (iN 64) H fun t13 H =>
 S445_1 call t0 t1 t10 t13 H) (S445_1 call t0 t1 t10 U H)
def S445_3 (call : CallFn) (t0 t1 : AV) (H : AHeap) : R :=
 pGeq t0 (iN 0) H fun t6 H =>
 guardA t6 true (pGeq t1 (iN 0) H fun t9 H =>
 S445_2 call t0 t1 t6 t9 H) (S445_2 call t0 t1 t6 U H)
def S445 : Ff := ⟨fun call l H => argA2 (fun t0 t1 => S445_3 call t0 t1 H) l⟩
def S446_0 (_ : CallFn) (t0 : AV) (H : AHeap) : R :=
 pConv .u64 t0 H fun t4 H =>
 pO (aBin .shl (.int .u64 (.ofNat 1)) t4) H fun t5 H =>
 pSub t5 (.int .u64 (.ofNat 1)) H fun t6 H =>
 some (t6, H)
def S446 : Ff := ⟨fun call l H => argA1 (fun t0 => S446_0 call t0 H) l⟩
def S449_0 (_ : CallFn) (t8 t9 : AV) (H : AHeap) : R :=
 ldK (.some 4) H t9 fun t35 H =>
 stK 4 H t8 t35 fun _ H =>
 ob (allM (fun o => o) [aLoad (.some 4) H t8]) fun vs => some (resV vs, H)
def S449_2 (call : CallFn) (q0 : AV → AV → AV → AV → AV → AV → AV → AHeap → R) (t0 t1 t2 t3 t8 t9 t10 t17 t20 : AV) (H : AHeap) : R :=
 pPick t17 t20 (.bool false) H fun t21 H =>
 onBool t21 (pC call n198 [t0] H fun t25 H =>
 pNew [(iN 0), (.str []), (iN 0)] H fun t11 H =>
 stK 3 H t11 t25 fun _ H =>
 pFa 1 t11 H fun t26 H =>
 ldK .none H t26 fun t27 H =>
 pFa 2 t11 H fun t28 H =>
 ldK .none H t28 fun t29 H =>
 ldK (.some 4) H t9 fun t30 H =>
 pV call t2 [] H fun t32 H =>
 andR (andB (ckV (aLoad .none H t26) t27) (andB (ckV (aLoad .none H t28) t29) (andB (ckV (aLoad (.some 4) H t9) t30) true))) (
 pN (aBsl 4 2 [(.str []), (.str []), (iN 0), .nilsl] [(0, 4, t30), (4, 4, t32)]) H fun t33 H =>
 pO (someAgg (aFill [(.str []), (.str []), (iN 0), .nilsl] [(0, 1, (.str [98, 105, 110, 97, 114, 121])), (1, 1, t27), (2, 1, t29), (3, 1, t33)])) H fun t34 H =>
 stK 4 H t9 t34 fun _ H =>
 pAdd t10 (iN 1) H fun t23 H =>
 q0 t0 t1 t2 t3 t8 t9 t23 H)) (S449_0 call t8 t9 H)
def S449_1 (call : CallFn) (n : Nat) : AV → AV → AV → AV → AV → AV → AV → AHeap → R :=
 Nat.rec (motive := fun _ => AV → AV → AV → AV → AV → AV → AV → AHeap → R) (fun _ _ _ _ _ _ _ _ => none) (fun _ q0 t0 t1 t2 t3 t8 t9 t10 H => pC call n134 [t0, t3] H fun t16 H =>
 guardA t16 true (pLss t10 t1 H fun t20 H =>
 S449_2 call q0 t0 t1 t2 t3 t8 t9 t10 t16 t20 H) (S449_2 call q0 t0 t1 t2 t3 t8 t9 t10 t16 U H)) n
def S449_3 (call : CallFn) (t0 t1 t2 t3 : AV) (H : AHeap) : R :=
 pNew [(.str []), (.str []), (iN 0), .nilsl] H fun t8 H =>
 pV call t2 [] H fun t13 H =>
 pNew [(.str []), (.str []), (iN 0), .nilsl] H fun t9 H =>
 stK 4 H t9 t13 fun _ H =>
 S449_1 call 1000000 t0 t1 t2 t3 t8 t9 (iN 0) H
def S449 : Ff := ⟨fun call l H => argA4 (fun t0 t1 t2 t3 => S449_3 call t0 t1 t2 t3 H) l⟩
def S450_0 (call : CallFn) (t0 : AV) (H : AHeap) : R :=
 pNew [(.str []), (.str []), (iN 0), .nilsl] H fun t2 H =>
 pO (aNil t0) H fun t5 H =>
 pFa 0 t5 H fun t6 H =>
 ldK .none H t6 fun t7 H =>
 pO (aLen .sl H t7) H fun t8 H =>
 pN (aBsl 1 1 [(.str [])] [(0, 1, (.str [38, 38]))]) H fun t11 H =>
 pC call n449 [t0, t8, (.fn n469 [t0] []), t11] H fun t12 H =>
 stK 4 H t2 t12 fun _ H =>
 ob (allM (fun o => o) [aLoad (.some 4) H t2]) fun vs => some (resV vs, H)
def S450 : Ff := ⟨fun call l H => argA1 (fun t0 => S450_0 call t0 H) l⟩
def S463_0 (call : CallFn) (t0 t1 t9 t12 : AV) (H : AHeap) : R :=
 pPick t9 (.bool true) t12 H fun t13 H =>
 onBool t13 (some ((.int .i64 (.negSucc 0)), H)) (pO (aBin .rem t0 (iN 64)) H fun t15 H =>
 pC call n260 [t1] H fun t18 H =>
 pO (aBin .rem t15 t18) H fun t19 H =>
 pNeq t19 (iN 0) H fun t20 H =>
 onBool t20 (some ((.int .i64 (.negSucc 0)), H)) (pC call n260 [t1] H fun t23 H =>
 pO (aBin .quo t15 t23) H fun t24 H =>
 some (t24, H)))
def S463_1 (call : CallFn) (t0 t1 : AV) (H : AHeap) : R :=
 pC call n260 [t1] H fun t7 H =>
 pEql t7 (iN 0) H fun t8 H =>
 guardA t8 false (pC call n361 [t0] H fun t11 H =>
 pEql t11 (.int .i64 (.negSucc 0)) H fun t12 H =>
 S463_0 call t0 t1 t8 t12 H) (S463_0 call t0 t1 t8 U H)
def S463 : Ff := ⟨fun call l H => argA2 (fun t0 t1 => S463_1 call t0 t1 H) l⟩
def S469_0 (call : CallFn) (t0 : AV) (H : AHeap) : R :=
 pNew [(.str []), (.str []), (iN 0), .nilsl] H fun t2 H =>
 pN (aBsl 1 6 [(.str [])] [(0, 1, (.str [61, 61])), (1, 1, (.str [33, 61])), (2, 1, (.str [60])), (3, 1, (.str [60, 61])), (4, 1, (.str [62])), (5, 1, (.str [62, 61]))]) H fun t6 H =>
 pC call n449 [t0, (iN 1), (.fn n482 [t0] []), t6] H fun t7 H =>
 stK 4 H t2 t7 fun _ H =>
 ob (allM (fun o => o) [aLoad (.some 4) H t2]) fun vs => some (resV vs, H)
def S469 : Ff := ⟨fun call l H => argA1 (fun t0 => S469_0 call t0 H) l⟩
def S482_0 (call : CallFn) (t0 : AV) (H : AHeap) : R :=
 pNew [(.str []), (.str []), (iN 0), .nilsl] H fun t2 H =>
 pO (aNil t0) H fun t5 H =>
 pFa 0 t5 H fun t6 H =>
 ldK .none H t6 fun t7 H =>
 pO (aLen .sl H t7) H fun t8 H =>
 pN (aBsl 1 4 [(.str [])] [(0, 1, (.str [43])), (1, 1, (.str [45])), (2, 1, (.str [124])), (3, 1, (.str [94]))]) H fun t11 H =>
 pC call n449 [t0, t8, (.fn n490 [t0] []), t11] H fun t12 H =>
 stK 4 H t2 t12 fun _ H =>
 ob (allM (fun o => o) [aLoad (.some 4) H t2]) fun vs => some (resV vs, H)
def S482 : Ff := ⟨fun call l H => argA1 (fun t0 => S482_0 call t0 H) l⟩
def S490_0 (call : CallFn) (t0 : AV) (H : AHeap) : R :=
 pNew [(.str []), (.str []), (iN 0), .nilsl] H fun t2 H =>
 pO (aNil t0) H fun t5 H =>
 pFa 0 t5 H fun t6 H =>
 ldK .none H t6 fun t7 H =>
 pO (aLen .sl H t7) H fun t8 H =>
 pN (aBsl 1 6 [(.str [])] [(0, 1, (.str [42])), (1, 1, (.str [47])), (2, 1, (.str [37])), (3, 1, (.str [60, 60])), (4, 1, (.str [62, 62])), (5, 1, (.str [38]))]) H fun t11 H =>
 pC call n449 [t0, t8, (.fn n493 [t0] []), t11] H fun t12 H =>
 stK 4 H t2 t12 fun _ H =>
 ob (allM (fun o => o) [aLoad (.some 4) H t2]) fun vs => some (resV vs, H)
def S490 : Ff := ⟨fun call l H => argA1 (fun t0 => S490_0 call t0 H) l⟩
def S493_0 (call : CallFn) (t0 t2 t10000 : AV) (H : AHeap) : R :=
 pC call n69 [t0, (.str [117, 110, 97, 114, 121])] H fun t14 H =>
 pNew [(.str []), (.str []), (iN 0), .nilsl] H fun t3 H =>
 stK 4 H t3 t14 fun _ H =>
 pC call n198 [t0] H fun t16 H =>
 pO (aFld 1 .none t16) H fun t17 H =>
 pFa 1 t3 H fun t18 H =>
 stK 1 H t18 t17 fun _ H =>
 pC call n493 [t0] H fun t20 H =>
 pN (aBsl 4 1 [(.str []), (.str []), (iN 0), .nilsl] [(0, 4, t20)]) H fun t21 H =>
 pFa 3 t3 H fun t22 H =>
 stK 1 H t22 t21 fun _ H =>
 ldK (.some 4) H t3 fun t23 H =>
 stK 4 H t2 t23 fun _ H =>
 pO (aNil t10000) H fun t20003 H =>
 pFa 2 t20003 H fun t20004 H =>
 ldK .none H t20004 fun t20005 H =>
 pSub t20005 (iN 1) H fun t20006 H =>
 pO (aNil t10000) H fun t20007 H =>
 pFa 2 t20007 H fun t20008 H =>
 stK 1 H t20008 t20006 fun _ H =>
 ob (allM (fun o => o) [aLoad (.some 4) H t2]) fun vs => some (resV vs, H)
def S493_1 (call : CallFn) (t0 : AV) (H : AHeap) : R :=
 pNew [(.str []), (.str []), (iN 0), .nilsl] H fun t2 H =>
 pN (aBsl 1 2 [(.str [])] [(0, 1, (.str [45])), (1, 1, (.str [33]))]) H fun t5 H =>
 pC call n134 [t0, t5] H fun t6 H =>
 pO (aUn .not t6) H fun t7 H =>
 onBool t7 (pC call n494 [t0] H fun t9 H =>
 stK 4 H t2 t9 fun _ H =>
 ob (allM (fun o => o) [aLoad (.some 4) H t2]) fun vs => some (resV vs, H)) (pC call n314 [t0] H fun _ H =>
 S493_0 call t0 t2 t0 H)
def S493 : Ff := ⟨fun call l H => argA1 (fun t0 => S493_1 call t0 H) l⟩
def S494_0 (call : CallFn) (n : Nat) : AV → AV → AV → AHeap → R :=
 Nat.rec (motive := fun _ => AV → AV → AV → AHeap → R) (fun _ _ _ _ => none) (fun _ q0 t0 t2 t3 H => pC call n70 [t0] H fun t8 H =>
 pNew [(iN 0), (.str []), (iN 0)] H fun t4 H =>
 stK 3 H t4 t8 fun _ H =>
 pC call n131 [t0, (.str [40])] H fun t12 H =>
 onBool t12 (pFa 2 t4 H fun t13 H =>
 ldK .none H t13 fun t14 H =>
 ldK (.some 4) H t3 fun t15 H =>
 pN (aBsl 4 1 [(.str []), (.str []), (iN 0), .nilsl] [(0, 4, t15)]) H fun t16 H =>
 pC call n201 [t0, (.fn n496 [t0] [])] H fun t20 H =>
 andR (andB (ckV (aLoad .none H t13) t14) (andB (ckV (aLoad (.some 4) H t3) t15) true)) (
 pW (aApp 4 64 H t16 t20) fun t21 H =>
 andR (andB (ckV (aLoad .none H t13) t14) true) (
 pO (someAgg (aFill [(.str []), (.str []), (iN 0), .nilsl] [(0, 1, (.str [99, 97, 108, 108])), (2, 1, t14), (3, 1, t21)])) H fun t22 H =>
 stK 4 H t3 t22 fun _ H =>
 q0 t0 t2 t3 H))) (pC call n131 [t0, (.str [91])] H fun t25 H =>
 onBool t25 (pFa 2 t4 H fun t26 H =>
 ldK .none H t26 fun t27 H =>
 ldK (.some 4) H t3 fun t28 H =>
 pC call n496 [t0] H fun t30 H =>
 andR (andB (ckV (aLoad .none H t26) t27) (andB (ckV (aLoad (.some 4) H t3) t28) true)) (
 pN (aBsl 4 2 [(.str []), (.str []), (iN 0), .nilsl] [(0, 4, t28), (4, 4, t30)]) H fun t31 H =>
 pO (someAgg (aFill [(.str []), (.str []), (iN 0), .nilsl] [(0, 1, (.str [105, 110, 100, 101, 120])), (2, 1, t27), (3, 1, t31)])) H fun t32 H =>
 stK 4 H t3 t32 fun _ H =>
 pC call n133 [t0, (.str [93])] H fun _ H =>
 q0 t0 t2 t3 H)) (pC call n131 [t0, (.str [46])] H fun t37 H =>
 onBool t37 (pFa 2 t4 H fun t41 H =>
 ldK .none H t41 fun t42 H =>
 ldK (.some 4) H t3 fun t43 H =>
 pN (aBsl 4 1 [(.str []), (.str []), (iN 0), .nilsl] [(0, 4, t43)]) H fun t44 H =>
 pC call n132 [t0] H fun t39 H =>
 andR (andB (ckV (aLoad .none H t41) t42) (andB (ckV (aLoad (.some 4) H t3) t43) true)) (
 pO (aFld 1 .none t39) H fun t40 H =>
 pO (someAgg (aFill [(.str []), (.str []), (iN 0), .nilsl] [(0, 1, (.str [100, 111, 116])), (1, 1, t40), (2, 1, t42), (3, 1, t44)])) H fun t45 H =>
 stK 4 H t3 t45 fun _ H =>
 q0 t0 t2 t3 H)) (ldK (.some 4) H t3 fun t9 H =>
 stK 4 H t2 t9 fun _ H =>
 ob (allM (fun o => o) [aLoad (.some 4) H t2]) fun vs => some (resV vs, H))))) n
def S494_1 (call : CallFn) (t0 : AV) (H : AHeap) : R :=
 pNew [(.str []), (.str []), (iN 0), .nilsl] H fun t2 H =>
 pC call n495 [t0] H fun t6 H =>
 pNew [(.str []), (.str []), (iN 0), .nilsl] H fun t3 H =>
 stK 4 H t3 t6 fun _ H =>
 S494_0 call 1000000 t0 t2 t3 H
def S494 : Ff := ⟨fun call l H => argA1 (fun t0 => S494_1 call t0 H) l⟩
def S495_0 (_ : CallFn) (t2 t4 : AV) (H : AHeap) : R :=
 ldK (.some 4) H t4 fun t104 H =>
 stK 4 H t2 t104 fun _ H =>
 ob (allM (fun o => o) [aLoad (.some 4) H t2]) fun vs => some (resV vs, H)
def S495_1 (call : CallFn) (t0 t2 t4 t78 t80 : AV) (H : AHeap) : R :=
 pPick t78 (.bool true) t80 H fun t81 H =>
 onBool t81 (pC call n133 [t0, (.str [40])] H fun _ H =>
 pC call n496 [t0] H fun t85 H =>
 pN (aBsl 4 1 [(.str []), (.str []), (iN 0), .nilsl] [(0, 4, t85)]) H fun t86 H =>
 pFa 3 t4 H fun t87 H =>
 stK 1 H t87 t86 fun _ H =>
 pC call n133 [t0, (.str [41])] H fun _ H =>
 S495_0 call t2 t4 H) (pC call n131 [t0, (.str [102, 117, 110, 99])] H fun t92 H =>
 onBool t92 (pC call n136 [t0] H fun t94 H =>
 pFa 0 t4 H fun t95 H =>
 stK 1 H t95 (.str [108, 97, 109, 98, 100, 97]) fun _ H =>
 pFa 3 t4 H fun t96 H =>
 stK 1 H t96 t94 fun _ H =>
 S495_0 call t2 t4 H) (pC call n131 [t0, (.str [40])] H fun t99 H =>
 onBool t99 (pC call n496 [t0] H fun t101 H =>
 stK 4 H t4 t101 fun _ H =>
 pC call n133 [t0, (.str [41])] H fun _ H =>
 S495_0 call t2 t4 H) (pC call n137 [t0, (iN 6)] H fun _ H =>
 S495_0 call t2 t4 H)))
def S495_2 (call : CallFn) (t0 t2 t4 t37 t39 : AV) (H : AHeap) : R :=
 pPick t37 (.bool true) t39 H fun t40 H =>
 onBool t40 (S495_0 call t2 t4 H) (pC call n131 [t0, (.str [110, 105, 108])] H fun t43 H =>
 onBool t43 (pC call n133 [t0, (.str [40])] H fun _ H =>
 pC call n200 [t0] H fun t47 H =>
 pN (aBsl 4 1 [(.str []), (.str []), (iN 0), .nilsl] [(0, 4, t47)]) H fun t48 H =>
 pFa 3 t4 H fun t49 H =>
 stK 1 H t49 t48 fun _ H =>
 pC call n133 [t0, (.str [41])] H fun _ H =>
 S495_0 call t2 t4 H) (pC call n131 [t0, (.str [110, 101, 119])] H fun t54 H =>
 onBool t54 (pC call n132 [t0] H fun t56 H =>
 pO (aFld 1 .none t56) H fun t57 H =>
 pFa 1 t4 H fun t58 H =>
 stK 1 H t58 t57 fun _ H =>
 S495_0 call t2 t4 H) (pC call n131 [t0, (.str [109, 97, 107, 101])] H fun t61 H =>
 onBool t61 (pC call n133 [t0, (.str [40])] H fun _ H =>
 pC call n200 [t0] H fun t65 H =>
 pNew [(.str []), (.str []), (iN 0), .nilsl] H fun t5 H =>
 stK 4 H t5 t65 fun _ H =>
 pC call n133 [t0, (.str [44])] H fun _ H =>
 ldK (.some 4) H t5 fun t68 H =>
 pC call n496 [t0] H fun t70 H =>
 andR (andB (ckV (aLoad (.some 4) H t5) t68) true) (
 pN (aBsl 4 2 [(.str []), (.str []), (iN 0), .nilsl] [(0, 4, t68), (4, 4, t70)]) H fun t71 H =>
 pFa 3 t4 H fun t72 H =>
 stK 1 H t72 t71 fun _ H =>
 pC call n133 [t0, (.str [41])] H fun _ H =>
 S495_0 call t2 t4 H)) (pC call n131 [t0, (.str [108, 101, 110])] H fun t77 H =>
 guardA t77 false (pC call n131 [t0, (.str [114, 101, 99, 118])] H fun t80 H =>
 S495_1 call t0 t2 t4 t77 t80 H) (S495_1 call t0 t2 t4 t77 U H)))))
def S495_3 (call : CallFn) (t0 : AV) (H : AHeap) : R :=
 pNew [(.str []), (.str []), (iN 0), .nilsl] H fun t2 H =>
 pC call n70 [t0] H fun t7 H =>
 pNew [(iN 0), (.str []), (iN 0)] H fun t3 H =>
 stK 3 H t3 t7 fun _ H =>
 pFa 1 t3 H fun t9 H =>
 ldK .none H t9 fun t10 H =>
 pC call n69 [t0, t10] H fun t11 H =>
 pNew [(.str []), (.str []), (iN 0), .nilsl] H fun t4 H =>
 stK 4 H t4 t11 fun _ H =>
 pFa 0 t3 H fun t15 H =>
 ldK .none H t15 fun t16 H =>
 pEql t16 (iN 3) H fun t17 H =>
 onBool t17 (pC call n198 [t0] H fun _ H =>
 pFa 1 t3 H fun t20 H =>
 ldK .none H t20 fun t21 H =>
 pFa 0 t4 H fun t22 H =>
 stK 1 H t22 (.str [110, 117, 109, 98, 101, 114]) fun _ H =>
 andR (andB (ckV (aLoad .none H t20) t21) true) (
 pFa 1 t4 H fun t23 H =>
 stK 1 H t23 t21 fun _ H =>
 S495_0 call t2 t4 H)) (pFa 0 t3 H fun t25 H =>
 ldK .none H t25 fun t26 H =>
 pEql t26 (iN 1) H fun t27 H =>
 onBool t27 (pC call n198 [t0] H fun _ H =>
 pFa 1 t3 H fun t30 H =>
 ldK .none H t30 fun t31 H =>
 pFa 0 t4 H fun t32 H =>
 stK 1 H t32 (.str [110, 97, 109, 101]) fun _ H =>
 andR (andB (ckV (aLoad .none H t30) t31) true) (
 pFa 1 t4 H fun t33 H =>
 stK 1 H t33 t31 fun _ H =>
 S495_0 call t2 t4 H)) (pC call n131 [t0, (.str [116, 114, 117, 101])] H fun t36 H =>
 guardA t36 false (pC call n131 [t0, (.str [102, 97, 108, 115, 101])] H fun t39 H =>
 S495_2 call t0 t2 t4 t36 t39 H) (S495_2 call t0 t2 t4 t36 U H)))
def S495 : Ff := ⟨fun call l H => argA1 (fun t0 => S495_3 call t0 H) l⟩
def S515_0 (call : CallFn) (t0 : AV) (H : AHeap) : R :=
 pO (aNil t0) H fun t4 H =>
 pFa 7 t4 H fun t5 H =>
 ldK .none H t5 fun t6 H =>
 pC call n162 [t6] H fun t7 H =>
 some (t7, H)
def S515 : Ff := ⟨fun call l H => argA1 (fun t0 => S515_0 call t0 H) l⟩
end
noncomputable section
set_option maxRecDepth 100000
def V_list : List (Option Ff) := [none, none, none, some S3, some S4, some S5, none, some S7, some S8, some S9, some S10, some S11, none, none, some S14, none, some S16, some S17, none, none, none, none, none, none, some S24, some S25, none, none, none, some S29, none, some S31, some S32, some S33, none, none, some S36, none, none, none, none, none, none, none, none, none, none, none, none, none, none, none, none, none, some S54, some S55, some S56, some S57, some S58, some S59, none, none, some S62, none, none, none, none, some S67, some S68, some S69, some S70, none, some S72, some S73, some S74, some S75, some S76, none, none, none, none, some S81, none, some S83, none, none, some S86, none, none, none, none, some S91, none, none, none, none, none, some S97, none, none, none, some S101, none, none, none, none, none, some S107, some S108, none, some S110, some S111, some S112, some S113, some S114, some S115, some S116, none, none, none, some S120, some S121, some S122, some S123, none, some S125, some S126, some S127, some S128, none, some S130, some S131, none, some S133, some S134, none, none, none, some S138, some S139, some S140, none, none, none, some S144, none, some S146, some S147, some S148, some S149, some S150, some S151, some S152, none, none, none, none, none, none, none, none, some S161, some S162, some S163, some S164, some S165, none, some S167, none, some S169, none, none, some S172, some S173, some S174, some S175, none, none, none, some S179, some S180, none, none, none, none, some S185, none, none, some S188, some S189, some S190, some S191, some S192, some S193, some S194, some S195, some S196, none, some S198, some S199, none, none, none, none, none, some S205, none, some S207, some S208, none, none, none, none, none, none, none, none, some S217, none, none, none, none, none, none, some S224, some S225, none, none, some S228, some S229, some S230, some S231, some S232, some S233, some S234, some S235, none, some S237, some S238, some S239, some S240, some S241, none, none, some S244, none, some S246, none, some S248, some S249, some S250, none, none, some S253, none, some S255, some S256, some S257, some S258, some S259, some S260, some S261, some S262, some S263, none, none, none, none, none, none, none, none, none, none, none, none, none, none, none, none, none, none, none, none, none, none, none, none, none, none, none, none, some S292, none, none, some S295, none, none, none, some S299, some S300, none, none, some S303, none, none, some S306, none, none, none, none, none, none, some S313, some S314, none, none, some S317, some S318, some S319, none, none, none, none, some S324, none, none, some S327, none, none, none, none, none, none, none, none, none, none, some S338, some S339, none, none, none, some S343, none, none, some S346, some S347, some S348, none, some S350, some S351, none, none, none, some S355, none, none, none, some S359, some S360, some S361, some S362, some S363, some S364, some S365, some S366, none, some S368, some S369, none, none, none, none, none, none, none, none, some S378, some S379, none, none, none, none, none, none, none, none, none, none, none, none, none, none, none, some S395, none, none, some S398, some S399, none, some S401, none, none, none, none, some S406, none, none, none, some S410, none, none, none, none, none, none, none, none, none, none, none, none, some S423, some S424, some S425, some S426, none, none, none, none, none, none, none, none, none, some S436, none, some S438, some S439, some S440, some S441, none, none, none, some S445, some S446, none, none, some S449, some S450, none, none, none, none, none, none, none, none, none, none, none, none, some S463, none, none, none, none, none, some S469, none, none, none, none, none, none, none, none, none, none, none, none, some S482, none, none, none, none, none, none, none, some S490, none, none, some S493, some S494, some S495, none, none, none, none, none, none, none, none, none, none, none, none, none, none, none, none, none, none, none, some S515]
def V_mask : Nat := 402234624808527173524491178919566629726879692779400757433684523912630185301365103602553072999394259778918860186106061592854512158657430841470402572691963896
def V_tab : Nat → Option Ff := tabX Tryz.prog [3] 1000000 V_mask 517 V_list
end
end Go.Proofs.YtcolbcpeialmhaaGreatDoor
