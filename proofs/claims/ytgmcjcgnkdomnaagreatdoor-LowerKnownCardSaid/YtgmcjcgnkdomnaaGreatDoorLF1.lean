/- Plain functions, printed: part 1. -/
import Derived.Test.YtgmcjcgnkdomnaaGreatDoorAdE
import Derived.Test.YtgmcjcgnkdomnaaGreatDoorProg
import Derived.KernelRfl
namespace Go.Proofs.YtgmcjcgnkdomnaaGreatDoor
open Go.Ab
set_option maxRecDepth 100000
/- (*gantline/gantlineref19.parser).in -/
noncomputable def S74_0 (call : CallFn) (t0 : AV) (H : AHeap) : R :=
  pO (aNil t0) H fun t4 H =>
  pFa 2 t4 H fun t5 H =>
  ldK .none H t5 fun t6 H =>
  pGeq t6 (.int .i64 (.ofNat 0)) H fun t7 H =>
  onBool t7 (some ((.bool false), H)) (pO (aNil t0) H fun t9 H =>
  pFa 4 t9 H fun t10 H =>
  ldK .none H t10 fun t11 H =>
  pGeq t11 (.int .i64 (.ofNat 60)) H fun t12 H =>
  onBool t12 (pC call 40 [t0] H fun t15 H =>
  pO (aFld 2 .none t15) H fun t16 H =>
  pO (aNil t0) H fun t17 H =>
  pFa 2 t17 H fun t18 H =>
  stK 1 H t18 t16 fun _ H =>
  pO (aNil t0) H fun t20 H =>
  pFa 3 t20 H fun t21 H =>
  stK 1 H t21 (.bool true) fun _ H =>
  some ((.bool false), H)) (pO (aNil t0) H fun t23 H =>
  pFa 4 t23 H fun t24 H =>
  ldK .none H t24 fun t25 H =>
  pAdd t25 (.int .i64 (.ofNat 1)) H fun t26 H =>
  pO (aNil t0) H fun t27 H =>
  pFa 4 t27 H fun t28 H =>
  stK 1 H t28 t26 fun _ H =>
  some ((.bool true), H)))
noncomputable def S74 : Ff := ⟨fun call l H => argA1 (fun t0 => S74_0 call t0 H) l⟩
/- (*gantline/gantlineref19.parser).out -/
noncomputable def S76_0 (_ : CallFn) (t0 : AV) (H : AHeap) : R :=
  pO (aNil t0) H fun t3 H =>
  pFa 4 t3 H fun t4 H =>
  ldK .none H t4 fun t5 H =>
  pSub t5 (.int .i64 (.ofNat 1)) H fun t6 H =>
  pO (aNil t0) H fun t7 H =>
  pFa 4 t7 H fun t8 H =>
  stK 1 H t8 t6 fun _ H =>
  some (.tup [], H)
noncomputable def S76 : Ff := ⟨fun call l H => argA1 (fun t0 => S76_0 call t0 H) l⟩
/- (*gantline/gantlineref19.parser).maybe -/
noncomputable def S77_0 (call : CallFn) (t0 : AV) (H : AHeap) : R :=
  pNew [(.str []), (.str []), (.int .i64 (.ofNat 0)), .nilsl] H fun t2 H =>
  pC call 121 [t0] H fun t4 H =>
  onBool t4 (pC call 45 [t0] H fun t6 H =>
  stK 4 H t2 t6 fun _ H =>
  ob (allM (fun o => o) [aLoad (.some 4) H t2]) fun vs => some (resV vs, H)) (pC call 40 [t0] H fun t8 H =>
  pO (aFld 2 .none t8) H fun t9 H =>
  pO (someAgg (aFill [(.str []), (.str []), (.int .i64 (.ofNat 0)), .nilsl] [(0, 1, (.str [110, 111, 110, 101])), (2, 1, t9)])) H fun t10 H =>
  stK 4 H t2 t10 fun _ H =>
  ob (allM (fun o => o) [aLoad (.some 4) H t2]) fun vs => some (resV vs, H))
noncomputable def S77 : Ff := ⟨fun call l H => argA1 (fun t0 => S77_0 call t0 H) l⟩
/- (*gantline/gantlineref19.parser).block -/
noncomputable def S78_0 (call : CallFn) (t0 t2 t3 : AV) (H : AHeap) : R :=
  pC call 43 [t0, (.str [125])] H fun _ H =>
  pC call 76 [t0] H fun _ H =>
  ldK (.some 4) H t3 fun t41 H =>
  stK 4 H t2 t41 fun _ H =>
  ob (allM (fun o => o) [aLoad (.some 4) H t2]) fun vs => some (resV vs, H)
noncomputable def S78_2 (call : CallFn) (q0 : AV → AV → AV → AHeap → R) (t0 t2 t3 t25 t28 : AV) (H : AHeap) : R :=
  pPick t25 t28 (.bool false) H fun t29 H =>
  onBool t29 (pFa 3 t3 H fun t30 H =>
  ldK .none H t30 fun t31 H =>
  pC call 122 [t0] H fun t33 H =>
  andR (andB (ckV (aLoad .none H t30) t31) true) (
  pN (aBsl 4 1 [(.str []), (.str []), (.int .i64 (.ofNat 0)), .nilsl] [(0, 4, t33)]) H fun t34 H =>
  pW (aApp 4 64 H t31 t34) fun t35 H =>
  pFa 3 t3 H fun t36 H =>
  stK 1 H t36 t35 fun _ H =>
  q0 t0 t2 t3 H)) (S78_0 call t0 t2 t3 H)
noncomputable def S78_1 (call : CallFn) (n : Nat) : AV → AV → AV → AHeap → R :=
  Nat.rec (motive := fun _ => AV → AV → AV → AHeap → R) (fun _ _ _ _ => none) (fun _ q0 t0 t2 t3 H => pO (aNil t0) H fun t21 H =>
  pFa 2 t21 H fun t22 H =>
  ldK .none H t22 fun t23 H =>
  pLss t23 (.int .i64 (.ofNat 0)) H fun t24 H =>
  guardA t24 true (pC call 44 [t0, (.str [125])] H fun t27 H =>
  pO (aUn .not t27) H fun t28 H =>
  S78_2 call q0 t0 t2 t3 t24 t28 H) (S78_2 call q0 t0 t2 t3 t24 U H)) n
noncomputable def S78_3 (call : CallFn) (t0 : AV) (H : AHeap) : R :=
  pNew [(.str []), (.str []), (.int .i64 (.ofNat 0)), .nilsl] H fun t2 H =>
  pC call 40 [t0] H fun t5 H =>
  pO (aFld 2 .none t5) H fun t6 H =>
  pO (someAgg (aFill [(.str []), (.str []), (.int .i64 (.ofNat 0)), .nilsl] [(0, 1, (.str [98, 108, 111, 99, 107])), (2, 1, t6)])) H fun t7 H =>
  pNew [(.str []), (.str []), (.int .i64 (.ofNat 0)), .nilsl] H fun t3 H =>
  stK 4 H t3 t7 fun _ H =>
  pC call 44 [t0, (.str [123])] H fun t9 H =>
  pO (aUn .not t9) H fun t10 H =>
  onBool t10 (pC call 47 [t0] H fun _ H =>
  ldK (.some 4) H t3 fun t13 H =>
  stK 4 H t2 t13 fun _ H =>
  ob (allM (fun o => o) [aLoad (.some 4) H t2]) fun vs => some (resV vs, H)) (pC call 74 [t0] H fun t15 H =>
  pO (aUn .not t15) H fun t16 H =>
  onBool t16 (ldK (.some 4) H t3 fun t17 H =>
  stK 4 H t2 t17 fun _ H =>
  ob (allM (fun o => o) [aLoad (.some 4) H t2]) fun vs => some (resV vs, H)) (pC call 43 [t0, (.str [123])] H fun _ H =>
  S78_1 call 1000000 t0 t2 t3 H))
noncomputable def S78 : Ff := ⟨fun call l H => argA1 (fun t0 => S78_3 call t0 H) l⟩
/- gantline/tree.find -/
noncomputable def S79_0 (_ : CallFn) (t2 t4 t71 : AV) (H : AHeap) : R :=
  onBool t71 (pN (aBsl 1 1 [(.str [])] [(0, 1, (.str [97, 110, 32, 101, 120, 112, 114, 101, 115, 115, 105, 111, 110]))]) H fun t79 H =>
  pO (someAgg (aFill [.nilsl, (.str [])] [(0, 1, t79)])) H fun t80 H =>
  stK 2 H t2 t80 fun _ H =>
  ob (allM (fun o => o) [aLoad (.some 2) H t2, some (.bool true)]) fun vs => some (resV vs, H)) (pEql t4 (.str [103, 111]) H fun t82 H =>
  onBool t82 (pN (aBsl 1 1 [(.str [])] [(0, 1, (.str [99, 97, 108, 108]))]) H fun t83 H =>
  pO (someAgg (aFill [.nilsl, (.str [])] [(0, 1, t83)])) H fun t84 H =>
  stK 2 H t2 t84 fun _ H =>
  ob (allM (fun o => o) [aLoad (.some 2) H t2, some (.bool true)]) fun vs => some (resV vs, H)) (pEql t4 (.str [115, 101, 108, 101, 99, 116]) H fun t86 H =>
  onBool t86 (pO (someAgg (aFill [.nilsl, (.str [])] [(1, 1, (.str [97, 32, 99, 97, 115, 101]))])) H fun t87 H =>
  stK 2 H t2 t87 fun _ H =>
  ob (allM (fun o => o) [aLoad (.some 2) H t2, some (.bool true)]) fun vs => some (resV vs, H)) (pEql t4 (.str [111, 110, 115, 101, 110, 100]) H fun t89 H =>
  onBool t89 (pN (aBsl 1 3 [(.str [])] [(0, 1, (.str [97, 110, 32, 101, 120, 112, 114, 101, 115, 115, 105, 111, 110])), (1, 1, (.str [97, 110, 32, 101, 120, 112, 114, 101, 115, 115, 105, 111, 110])), (2, 1, (.str [98, 108, 111, 99, 107]))]) H fun t90 H =>
  pO (someAgg (aFill [.nilsl, (.str [])] [(0, 1, t90)])) H fun t91 H =>
  stK 2 H t2 t91 fun _ H =>
  ob (allM (fun o => o) [aLoad (.some 2) H t2, some (.bool true)]) fun vs => some (resV vs, H)) (pEql t4 (.str [100, 101, 102, 97, 117, 108, 116]) H fun t93 H =>
  onBool t93 (pN (aBsl 1 1 [(.str [])] [(0, 1, (.str [98, 108, 111, 99, 107]))]) H fun t94 H =>
  pO (someAgg (aFill [.nilsl, (.str [])] [(0, 1, t94)])) H fun t95 H =>
  stK 2 H t2 t95 fun _ H =>
  ob (allM (fun o => o) [aLoad (.some 2) H t2, some (.bool true)]) fun vs => some (resV vs, H)) (pEql t4 (.str [99, 97, 108, 108]) H fun t97 H =>
  onBool t97 (pN (aBsl 1 1 [(.str [])] [(0, 1, (.str [97, 110, 32, 101, 120, 112, 114, 101, 115, 115, 105, 111, 110]))]) H fun t98 H =>
  pO (someAgg (aFill [.nilsl, (.str [])] [(0, 1, t98), (1, 1, (.str [97, 110, 32, 101, 120, 112, 114, 101, 115, 115, 105, 111, 110]))])) H fun t99 H =>
  stK 2 H t2 t99 fun _ H =>
  ob (allM (fun o => o) [aLoad (.some 2) H t2, some (.bool true)]) fun vs => some (resV vs, H)) (pO (someAgg (aFill [.nilsl, (.str [])] [])) H fun t100 H =>
  stK 2 H t2 t100 fun _ H =>
  ob (allM (fun o => o) [aLoad (.some 2) H t2, some (.bool false)]) fun vs => some (resV vs, H)))))))
noncomputable def S79_1 (call : CallFn) (t2 t4 t62 : AV) (H : AHeap) : R :=
  onBool t62 (pN (aBsl 1 2 [(.str [])] [(0, 1, (.str [97, 110, 32, 101, 120, 112, 114, 101, 115, 115, 105, 111, 110])), (1, 1, (.str [98, 108, 111, 99, 107]))]) H fun t65 H =>
  pO (someAgg (aFill [.nilsl, (.str [])] [(0, 1, t65)])) H fun t66 H =>
  stK 2 H t2 t66 fun _ H =>
  ob (allM (fun o => o) [aLoad (.some 2) H t2, some (.bool true)]) fun vs => some (resV vs, H)) (pEql t4 (.str [114, 101, 116, 117, 114, 110]) H fun t68 H =>
  onBool t68 (pN (aBsl 1 1 [(.str [])] [(0, 1, (.str [63, 97, 110, 32, 101, 120, 112, 114, 101, 115, 115, 105, 111, 110]))]) H fun t69 H =>
  pO (someAgg (aFill [.nilsl, (.str [])] [(0, 1, t69)])) H fun t70 H =>
  stK 2 H t2 t70 fun _ H =>
  ob (allM (fun o => o) [aLoad (.some 2) H t2, some (.bool true)]) fun vs => some (resV vs, H)) (pEql t4 (.str [112, 114, 105, 110, 116]) H fun t72 H =>
  onBool t72 (S79_0 call t2 t4 t72 H) (pEql t4 (.str [99, 108, 111, 115, 101]) H fun t73 H =>
  onBool t73 (S79_0 call t2 t4 t73 H) (pEql t4 (.str [100, 111]) H fun t74 H =>
  onBool t74 (S79_0 call t2 t4 t74 H) (pEql t4 (.str [117, 110, 97, 114, 121]) H fun t75 H =>
  onBool t75 (S79_0 call t2 t4 t75 H) (pEql t4 (.str [100, 111, 116]) H fun t76 H =>
  onBool t76 (S79_0 call t2 t4 t76 H) (pEql t4 (.str [108, 101, 110]) H fun t77 H =>
  onBool t77 (S79_0 call t2 t4 t77 H) (pEql t4 (.str [114, 101, 99, 118]) H fun t78 H =>
  S79_0 call t2 t4 t78 H))))))))
noncomputable def S79_2 (call : CallFn) (t2 t4 t51 : AV) (H : AHeap) : R :=
  onBool t51 (pN (aBsl 1 2 [(.str [])] [(0, 1, (.str [97, 110, 32, 101, 120, 112, 114, 101, 115, 115, 105, 111, 110])), (1, 1, (.str [97, 110, 32, 101, 120, 112, 114, 101, 115, 115, 105, 111, 110]))]) H fun t56 H =>
  pO (someAgg (aFill [.nilsl, (.str [])] [(0, 1, t56)])) H fun t57 H =>
  stK 2 H t2 t57 fun _ H =>
  ob (allM (fun o => o) [aLoad (.some 2) H t2, some (.bool true)]) fun vs => some (resV vs, H)) (pEql t4 (.str [105, 102]) H fun t59 H =>
  onBool t59 (pN (aBsl 1 3 [(.str [])] [(0, 1, (.str [97, 110, 32, 101, 120, 112, 114, 101, 115, 115, 105, 111, 110])), (1, 1, (.str [98, 108, 111, 99, 107])), (2, 1, (.str [63, 98, 108, 111, 99, 107]))]) H fun t60 H =>
  pO (someAgg (aFill [.nilsl, (.str [])] [(0, 1, t60)])) H fun t61 H =>
  stK 2 H t2 t61 fun _ H =>
  ob (allM (fun o => o) [aLoad (.some 2) H t2, some (.bool true)]) fun vs => some (resV vs, H)) (pEql t4 (.str [119, 104, 105, 108, 101]) H fun t63 H =>
  onBool t63 (S79_1 call t2 t4 t63 H) (pEql t4 (.str [111, 110, 114, 101, 99, 118]) H fun t64 H =>
  S79_1 call t2 t4 t64 H)))
noncomputable def S79_3 (call : CallFn) (t2 t4 t46 : AV) (H : AHeap) : R :=
  onBool t46 (pN (aBsl 1 2 [(.str [])] [(0, 1, (.str [97, 32, 116, 121, 112, 101])), (1, 1, (.str [97, 110, 32, 101, 120, 112, 114, 101, 115, 115, 105, 111, 110]))]) H fun t49 H =>
  pO (someAgg (aFill [.nilsl, (.str [])] [(0, 1, t49)])) H fun t50 H =>
  stK 2 H t2 t50 fun _ H =>
  ob (allM (fun o => o) [aLoad (.some 2) H t2, some (.bool true)]) fun vs => some (resV vs, H)) (pEql t4 (.str [115, 101, 116]) H fun t52 H =>
  onBool t52 (S79_2 call t2 t4 t52 H) (pEql t4 (.str [115, 101, 110, 100]) H fun t53 H =>
  onBool t53 (S79_2 call t2 t4 t53 H) (pEql t4 (.str [98, 105, 110, 97, 114, 121]) H fun t54 H =>
  onBool t54 (S79_2 call t2 t4 t54 H) (pEql t4 (.str [105, 110, 100, 101, 120]) H fun t55 H =>
  S79_2 call t2 t4 t55 H))))
noncomputable def S79_4 (call : CallFn) (t2 t4 t28 : AV) (H : AHeap) : R :=
  onBool t28 (pO (someAgg (aFill [.nilsl, (.str [])] [])) H fun t38 H =>
  stK 2 H t2 t38 fun _ H =>
  ob (allM (fun o => o) [aLoad (.some 2) H t2, some (.bool true)]) fun vs => some (resV vs, H)) (pEql t4 (.str [102, 110]) H fun t40 H =>
  onBool t40 (pN (aBsl 1 1 [(.str [])] [(0, 1, (.str [63, 97, 32, 116, 121, 112, 101]))]) H fun t41 H =>
  pO (someAgg (aFill [.nilsl, (.str [])] [(0, 1, t41), (1, 1, (.str [97, 32, 116, 121, 112, 101]))])) H fun t42 H =>
  stK 2 H t2 t42 fun _ H =>
  ob (allM (fun o => o) [aLoad (.some 2) H t2, some (.bool true)]) fun vs => some (resV vs, H)) (pEql t4 (.str [98, 108, 111, 99, 107]) H fun t44 H =>
  onBool t44 (pO (someAgg (aFill [.nilsl, (.str [])] [(1, 1, (.str [97, 32, 115, 116, 97, 116, 101, 109, 101, 110, 116]))])) H fun t45 H =>
  stK 2 H t2 t45 fun _ H =>
  ob (allM (fun o => o) [aLoad (.some 2) H t2, some (.bool true)]) fun vs => some (resV vs, H)) (pEql t4 (.str [108, 101, 116]) H fun t47 H =>
  onBool t47 (S79_3 call t2 t4 t47 H) (pEql t4 (.str [109, 97, 107, 101]) H fun t48 H =>
  S79_3 call t2 t4 t48 H))))
noncomputable def S79_5 (call : CallFn) (t2 t4 t20 : AV) (H : AHeap) : R :=
  onBool t20 (pN (aBsl 1 3 [(.str [])] [(0, 1, (.str [112, 97, 114, 97, 109, 115])), (1, 1, (.str [63, 97, 32, 116, 121, 112, 101])), (2, 1, (.str [98, 108, 111, 99, 107]))]) H fun t23 H =>
  pO (someAgg (aFill [.nilsl, (.str [])] [(0, 1, t23)])) H fun t24 H =>
  stK 2 H t2 t24 fun _ H =>
  ob (allM (fun o => o) [aLoad (.some 2) H t2, some (.bool true)]) fun vs => some (resV vs, H)) (pEql t4 (.str [112, 97, 114, 97, 109, 115]) H fun t26 H =>
  onBool t26 (pO (someAgg (aFill [.nilsl, (.str [])] [(1, 1, (.str [112, 97, 114, 97, 109]))])) H fun t27 H =>
  stK 2 H t2 t27 fun _ H =>
  ob (allM (fun o => o) [aLoad (.some 2) H t2, some (.bool true)]) fun vs => some (resV vs, H)) (pEql t4 (.str [110, 111, 110, 101]) H fun t29 H =>
  onBool t29 (S79_4 call t2 t4 t29 H) (pEql t4 (.str [105, 110, 116]) H fun t30 H =>
  onBool t30 (S79_4 call t2 t4 t30 H) (pEql t4 (.str [98, 111, 111, 108]) H fun t31 H =>
  onBool t31 (S79_4 call t2 t4 t31 H) (pEql t4 (.str [110, 97, 109, 101, 100]) H fun t32 H =>
  onBool t32 (S79_4 call t2 t4 t32 H) (pEql t4 (.str [110, 117, 109, 98, 101, 114]) H fun t33 H =>
  onBool t33 (S79_4 call t2 t4 t33 H) (pEql t4 (.str [116, 114, 117, 101]) H fun t34 H =>
  onBool t34 (S79_4 call t2 t4 t34 H) (pEql t4 (.str [102, 97, 108, 115, 101]) H fun t35 H =>
  onBool t35 (S79_4 call t2 t4 t35 H) (pEql t4 (.str [110, 97, 109, 101]) H fun t36 H =>
  onBool t36 (S79_4 call t2 t4 t36 H) (pEql t4 (.str [110, 101, 119]) H fun t37 H =>
  S79_4 call t2 t4 t37 H))))))))))
noncomputable def S79_6 (call : CallFn) (t2 t4 t11 : AV) (H : AHeap) : R :=
  onBool t11 (pN (aBsl 1 1 [(.str [])] [(0, 1, (.str [97, 32, 116, 121, 112, 101]))]) H fun t18 H =>
  pO (someAgg (aFill [.nilsl, (.str [])] [(0, 1, t18)])) H fun t19 H =>
  stK 2 H t2 t19 fun _ H =>
  ob (allM (fun o => o) [aLoad (.some 2) H t2, some (.bool true)]) fun vs => some (resV vs, H)) (pEql t4 (.str [102, 117, 110, 99]) H fun t21 H =>
  onBool t21 (S79_5 call t2 t4 t21 H) (pEql t4 (.str [108, 97, 109, 98, 100, 97]) H fun t22 H =>
  S79_5 call t2 t4 t22 H))
noncomputable def S79_7 (call : CallFn) (t0 : AV) (H : AHeap) : R :=
  pNew [.nilsl, (.str [])] H fun t2 H =>
  pEql t0 (.str [112, 114, 111, 103, 114, 97, 109]) H fun t6 H =>
  onBool t6 (pO (someAgg (aFill [.nilsl, (.str [])] [(1, 1, (.str [97, 32, 100, 101, 99, 108, 97, 114, 97, 116, 105, 111, 110]))])) H fun t7 H =>
  stK 2 H t2 t7 fun _ H =>
  ob (allM (fun o => o) [aLoad (.some 2) H t2, some (.bool true)]) fun vs => some (resV vs, H)) (pEql t0 (.str [115, 116, 114, 117, 99, 116]) H fun t9 H =>
  onBool t9 (pO (someAgg (aFill [.nilsl, (.str [])] [(1, 1, (.str [102, 105, 101, 108, 100]))])) H fun t10 H =>
  stK 2 H t2 t10 fun _ H =>
  ob (allM (fun o => o) [aLoad (.some 2) H t2, some (.bool true)]) fun vs => some (resV vs, H)) (pEql t0 (.str [102, 105, 101, 108, 100]) H fun t12 H =>
  onBool t12 (S79_6 call t2 t0 t12 H) (pEql t0 (.str [103, 108, 111, 98, 97, 108]) H fun t13 H =>
  onBool t13 (S79_6 call t2 t0 t13 H) (pEql t0 (.str [112, 97, 114, 97, 109]) H fun t14 H =>
  onBool t14 (S79_6 call t2 t0 t14 H) (pEql t0 (.str [108, 105, 115, 116]) H fun t15 H =>
  onBool t15 (S79_6 call t2 t0 t15 H) (pEql t0 (.str [99, 104, 97, 110]) H fun t16 H =>
  onBool t16 (S79_6 call t2 t0 t16 H) (pEql t0 (.str [110, 105, 108]) H fun t17 H =>
  S79_6 call t2 t0 t17 H)))))))
noncomputable def S79 : Ff := ⟨fun call l H => argA1 (fun t0 => S79_7 call t0 H) l⟩
/- gantline/tree.of -/
noncomputable def S80_0 (_ : CallFn) (t16 t19 : AV) (H : AHeap) : R :=
  pPick t16 (.bool true) t19 H fun t20 H =>
  some (t20, H)
noncomputable def S80_1 (call : CallFn) (t0 t1 : AV) (H : AHeap) : R :=
  pBox t0 H fun t2 H =>
  pC call 123 [t1, (.str [63])] H fun t9 H =>
  pExt t9 0 H fun t10 H =>
  pExt t9 1 H fun t11 H =>
  onBool t11 (pFa 0 t2 H fun t13 H =>
  ldK .none H t13 fun t14 H =>
  pEql t14 (.str [110, 111, 110, 101]) H fun t15 H =>
  guardA t15 false (ldK (.some 4) H t2 fun t17 H =>
  pC call 80 [t17, t10] H fun t19 H =>
  S80_0 call t15 t19 H) (S80_0 call t15 U H)) (pEql t1 (.str [97, 32, 100, 101, 99, 108, 97, 114, 97, 116, 105, 111, 110]) H fun t23 H =>
  onBool t23 (pN (aBsl 1 3 [(.str [])] [(0, 1, (.str [115, 116, 114, 117, 99, 116])), (1, 1, (.str [103, 108, 111, 98, 97, 108])), (2, 1, (.str [102, 117, 110, 99]))]) H fun t24 H =>
  pFa 0 t2 H fun t25 H =>
  ldK .none H t25 fun t26 H =>
  pC call 124 [t24, t26] H fun t27 H =>
  some (t27, H)) (pEql t1 (.str [97, 32, 116, 121, 112, 101]) H fun t29 H =>
  onBool t29 (pN (aBsl 1 6 [(.str [])] [(0, 1, (.str [105, 110, 116])), (1, 1, (.str [98, 111, 111, 108])), (2, 1, (.str [110, 97, 109, 101, 100])), (3, 1, (.str [108, 105, 115, 116])), (4, 1, (.str [99, 104, 97, 110])), (5, 1, (.str [102, 110]))]) H fun t30 H =>
  pFa 0 t2 H fun t31 H =>
  ldK .none H t31 fun t32 H =>
  pC call 124 [t30, t32] H fun t33 H =>
  some (t33, H)) (pEql t1 (.str [97, 32, 115, 116, 97, 116, 101, 109, 101, 110, 116]) H fun t35 H =>
  onBool t35 (pN (aBsl 1 12 [(.str [])] [(0, 1, (.str [98, 108, 111, 99, 107])), (1, 1, (.str [108, 101, 116])), (2, 1, (.str [115, 101, 116])), (3, 1, (.str [105, 102])), (4, 1, (.str [119, 104, 105, 108, 101])), (5, 1, (.str [114, 101, 116, 117, 114, 110])), (6, 1, (.str [112, 114, 105, 110, 116])), (7, 1, (.str [99, 108, 111, 115, 101])), (8, 1, (.str [103, 111])), (9, 1, (.str [115, 101, 110, 100])), (10, 1, (.str [115, 101, 108, 101, 99, 116])), (11, 1, (.str [100, 111]))]) H fun t36 H =>
  pFa 0 t2 H fun t37 H =>
  ldK .none H t37 fun t38 H =>
  pC call 124 [t36, t38] H fun t39 H =>
  some (t39, H)) (pEql t1 (.str [97, 110, 32, 101, 120, 112, 114, 101, 115, 115, 105, 111, 110]) H fun t41 H =>
  onBool t41 (pN (aBsl 1 15 [(.str [])] [(0, 1, (.str [110, 117, 109, 98, 101, 114])), (1, 1, (.str [116, 114, 117, 101])), (2, 1, (.str [102, 97, 108, 115, 101])), (3, 1, (.str [110, 105, 108])), (4, 1, (.str [110, 97, 109, 101])), (5, 1, (.str [98, 105, 110, 97, 114, 121])), (6, 1, (.str [117, 110, 97, 114, 121])), (7, 1, (.str [99, 97, 108, 108])), (8, 1, (.str [105, 110, 100, 101, 120])), (9, 1, (.str [100, 111, 116])), (10, 1, (.str [110, 101, 119])), (11, 1, (.str [109, 97, 107, 101])), (12, 1, (.str [108, 101, 110])), (13, 1, (.str [114, 101, 99, 118])), (14, 1, (.str [108, 97, 109, 98, 100, 97]))]) H fun t42 H =>
  pFa 0 t2 H fun t43 H =>
  ldK .none H t43 fun t44 H =>
  pC call 124 [t42, t44] H fun t45 H =>
  some (t45, H)) (pEql t1 (.str [97, 32, 99, 97, 115, 101]) H fun t47 H =>
  onBool t47 (pN (aBsl 1 3 [(.str [])] [(0, 1, (.str [111, 110, 114, 101, 99, 118])), (1, 1, (.str [111, 110, 115, 101, 110, 100])), (2, 1, (.str [100, 101, 102, 97, 117, 108, 116]))]) H fun t48 H =>
  pFa 0 t2 H fun t49 H =>
  ldK .none H t49 fun t50 H =>
  pC call 124 [t48, t50] H fun t51 H =>
  some (t51, H)) (pFa 0 t2 H fun t52 H =>
  ldK .none H t52 fun t53 H =>
  pEql t53 t1 H fun t55 H =>
  some (t55, H)))))))
noncomputable def S80 : Ff := ⟨fun call l H => argA2 (fun t0 t1 => S80_1 call t0 t1 H) l⟩
/- (*gantline/check.checker).stmt -/
noncomputable def S81_0 (call : CallFn) (t0 t3 t4 t28 t34 t39 t41 : AV) (H : AHeap) : R :=
  pPick t34 t39 (.bool false) H fun t40 H =>
  pC call 21 [t28, t40, t41] H fun _ H =>
  pFa 1 t3 H fun t44 H =>
  ldK .none H t44 fun t45 H =>
  pIa 4 t4 (.int .i64 (.ofNat 0)) H fun t47 H =>
  ldK (.some 4) H t47 fun t48 H =>
  pC call 54 [t0, t45, t48] H fun _ H =>
  some (.tup [], H)
noncomputable def S81_1 (call : CallFn) (t0 t3 t4 t28 t34 t38 t41 : AV) (H : AHeap) : R :=
  andR (andB (ckV (aLoad (.some 4) H t3) t41) true) (
  guardA t34 true (pO (aUn .not t38) H fun t39 H =>
  S81_0 call t0 t3 t4 t28 t34 t39 t41 H) (S81_0 call t0 t3 t4 t28 t34 U t41 H))
noncomputable def S81_2 (call : CallFn) (t0 t3 t4 t28 t34 t35 t37 t41 : AV) (H : AHeap) : R :=
  guardA t34 true (pC call 128 [t35, t37] H fun t38 H =>
  S81_1 call t0 t3 t4 t28 t34 t38 t41 H) (S81_1 call t0 t3 t4 t28 t34 U t41 H)
noncomputable def S81_3 (call : CallFn) (t0 t3 t4 t28 t34 t35 t36 t41 : AV) (H : AHeap) : R :=
  guardA t34 true (ldK .none H t36 fun t37 H =>
  S81_2 call t0 t3 t4 t28 t34 t35 t37 t41 H) (S81_2 call t0 t3 t4 t28 t34 t35 U t41 H)
noncomputable def S81_4 (call : CallFn) (t0 t3 t4 t28 t34 t35 t41 : AV) (H : AHeap) : R :=
  guardA t34 true (pFa 1 t3 H fun t36 H =>
  S81_3 call t0 t3 t4 t28 t34 t35 t36 t41 H) (S81_3 call t0 t3 t4 t28 t34 t35 U t41 H)
noncomputable def S81_6 (_ : CallFn) (q0 : AV → AV → AV → AV → AHeap → R) (t0 t77 t78 t79 : AV) (H : AHeap) : R :=
  pAdd t79 (.int .i64 (.ofNat 1)) H fun t89 H =>
  q0 t0 t77 t78 t89 H
noncomputable def S81_5 (call : CallFn) (n : Nat) : AV → AV → AV → AV → AHeap → R :=
  Nat.rec (motive := fun _ => AV → AV → AV → AV → AHeap → R) (fun _ _ _ _ _ => none) (fun _ q0 t0 t77 t78 t79 H => pLss t79 t78 H fun t80 H =>
  onBool t80 (pIa 4 t77 t79 H fun t81 H =>
  ldK (.some 4) H t81 fun t82 H =>
  pNew [(.str []), (.str []), (.int .i64 (.ofNat 0)), .nilsl] H fun t9 H =>
  stK 4 H t9 t82 fun _ H =>
  pFa 0 t9 H fun t83 H =>
  ldK .none H t83 fun t84 H =>
  pEql t84 (.str [98, 108, 111, 99, 107]) H fun t85 H =>
  onBool t85 (ldK (.some 4) H t9 fun t87 H =>
  pC call 125 [t0, t87, .nilsl] H fun _ H =>
  S81_6 call q0 t0 t77 t78 t79 H) (S81_6 call q0 t0 t77 t78 t79 H)) (some (.tup [], H))) n
noncomputable def S81_7 (call : CallFn) (t0 t3 t4 t159 t165 t170 : AV) (H : AHeap) : R :=
  pPick t165 (.bool true) t170 H fun t171 H =>
  ldK (.some 4) H t3 fun t172 H =>
  pC call 21 [t159, t171, t172] H fun _ H =>
  pIa 4 t4 (.int .i64 (.ofNat 0)) H fun t175 H =>
  pFa 0 t175 H fun t176 H =>
  ldK .none H t176 fun t177 H =>
  pEql t177 (.str [99, 97, 108, 108]) H fun t178 H =>
  onBool t178 (pIa 4 t4 (.int .i64 (.ofNat 0)) H fun t181 H =>
  ldK (.some 4) H t181 fun t182 H =>
  pC call 131 [t0, t182] H fun _ H =>
  some (.tup [], H)) (pIa 4 t4 (.int .i64 (.ofNat 0)) H fun t186 H =>
  ldK (.some 4) H t186 fun t187 H =>
  pC call 126 [t0, t187] H fun _ H =>
  some (.tup [], H))
noncomputable def S81_8 (call : CallFn) (t0 t3 t4 t159 t165 t169 : AV) (H : AHeap) : R :=
  guardA t165 false (pEql t169 (.str [114, 101, 99, 118]) H fun t170 H =>
  S81_7 call t0 t3 t4 t159 t165 t170 H) (S81_7 call t0 t3 t4 t159 t165 U H)
noncomputable def S81_9 (call : CallFn) (t0 t3 t4 t159 t165 t168 : AV) (H : AHeap) : R :=
  guardA t165 false (ldK .none H t168 fun t169 H =>
  S81_8 call t0 t3 t4 t159 t165 t169 H) (S81_8 call t0 t3 t4 t159 t165 U H)
noncomputable def S81_10 (call : CallFn) (t0 t3 t4 t159 t165 t167 : AV) (H : AHeap) : R :=
  guardA t165 false (pFa 0 t167 H fun t168 H =>
  S81_9 call t0 t3 t4 t159 t165 t168 H) (S81_9 call t0 t3 t4 t159 t165 U H)
noncomputable def S81_11 (call : CallFn) (t0 t3 t4 t159 t165 t166 : AV) (H : AHeap) : R :=
  guardA t165 false (pIa 4 t166 (.int .i64 (.ofNat 0)) H fun t167 H =>
  S81_10 call t0 t3 t4 t159 t165 t167 H) (S81_10 call t0 t3 t4 t159 t165 U H)
noncomputable def S81_12 (call : CallFn) (t0 t3 t4 t15 t68 : AV) (H : AHeap) : R :=
  onBool t68 (pIa 4 t4 (.int .i64 (.ofNat 0)) H fun t73 H =>
  ldK (.some 4) H t73 fun t74 H =>
  pC call 130 [t0, t74, (.str [98, 111, 111, 108])] H fun _ H =>
  pO (aSlice 4 H t4 (.some (.int .i64 (.ofNat 1))) .none .none) H fun t77 H =>
  pO (aLen .sl H t77) H fun t78 H =>
  S81_5 call 1000000 t0 t77 t78 (.int .i64 (.ofNat 0)) H) (pEql t15 (.str [114, 101, 116, 117, 114, 110]) H fun t91 H =>
  onBool t91 (pIa 4 t4 (.int .i64 (.ofNat 0)) H fun t93 H =>
  pFa 0 t93 H fun t94 H =>
  ldK .none H t94 fun t95 H =>
  pEql t95 (.str [110, 111, 110, 101]) H fun t96 H =>
  onBool t96 (pO (aNil t0) H fun t99 H =>
  pFa 8 t99 H fun t100 H =>
  pFa 0 t100 H fun t101 H =>
  ldK .none H t101 fun t102 H =>
  pEql t102 (.str [110, 111, 110, 101]) H fun t103 H =>
  ldK (.some 4) H t3 fun t104 H =>
  pC call 21 [t0, t103, t104] H fun _ H =>
  some (.tup [], H)) (pIa 4 t4 (.int .i64 (.ofNat 0)) H fun t108 H =>
  ldK (.some 4) H t108 fun t109 H =>
  pC call 126 [t0, t109] H fun t110 H =>
  pNew [(.str []), (.str []), (.int .i64 (.ofNat 0)), .nilsl] H fun t10 H =>
  stK 4 H t10 t110 fun _ H =>
  ldK (.some 4) H t10 fun t112 H =>
  pO (aNil t0) H fun t114 H =>
  pFa 8 t114 H fun t115 H =>
  ldK (.some 4) H t115 fun t116 H =>
  ldK (.some 4) H t3 fun t118 H =>
  pC call 127 [t112, t116] H fun t117 H =>
  andR (andB (ckV (aLoad (.some 4) H t3) t118) true) (
  pC call 21 [t0, t117, t118] H fun _ H =>
  some (.tup [], H)))) (pEql t15 (.str [112, 114, 105, 110, 116]) H fun t121 H =>
  onBool t121 (pIa 4 t4 (.int .i64 (.ofNat 0)) H fun t124 H =>
  ldK (.some 4) H t124 fun t125 H =>
  pC call 130 [t0, t125, (.str [105, 110, 116])] H fun _ H =>
  some (.tup [], H)) (pEql t15 (.str [99, 108, 111, 115, 101]) H fun t128 H =>
  onBool t128 (pIa 4 t4 (.int .i64 (.ofNat 0)) H fun t131 H =>
  ldK (.some 4) H t131 fun t132 H =>
  pC call 130 [t0, t132, (.str [99, 104, 97, 110])] H fun _ H =>
  some (.tup [], H)) (pEql t15 (.str [103, 111]) H fun t135 H =>
  onBool t135 (pIa 4 t4 (.int .i64 (.ofNat 0)) H fun t138 H =>
  ldK (.some 4) H t138 fun t139 H =>
  pC call 131 [t0, t139] H fun t140 H =>
  pNew [(.str []), (.str []), (.int .i64 (.ofNat 0)), .nilsl] H fun t11 H =>
  stK 4 H t11 t140 fun _ H =>
  pFa 0 t11 H fun t142 H =>
  ldK .none H t142 fun t143 H =>
  pEql t143 (.str [110, 111, 110, 101]) H fun t144 H =>
  ldK (.some 4) H t3 fun t145 H =>
  pC call 21 [t0, t144, t145] H fun _ H =>
  some (.tup [], H)) (pEql t15 (.str [115, 101, 110, 100]) H fun t148 H =>
  onBool t148 (pC call 132 [t0, t4] H fun _ H =>
  some (.tup [], H)) (pEql t15 (.str [115, 101, 108, 101, 99, 116]) H fun t153 H =>
  onBool t153 (ldK (.some 4) H t3 fun t155 H =>
  pC call 133 [t0, t155] H fun _ H =>
  some (.tup [], H)) (pEql t15 (.str [100, 111]) H fun t158 H =>
  onBool t158 (pIa 4 t4 (.int .i64 (.ofNat 0)) H fun t161 H =>
  pFa 0 t161 H fun t162 H =>
  ldK .none H t162 fun t163 H =>
  pEql t163 (.str [99, 97, 108, 108]) H fun t164 H =>
  guardA t164 false (S81_11 call t0 t3 t4 t0 t164 t4 H) (S81_11 call t0 t3 t4 t0 t164 U H)) (some (.tup [], H)))))))))
noncomputable def S81_13 (call : CallFn) (t0 t1 : AV) (H : AHeap) : R :=
  pBox t1 H fun t3 H =>
  pFa 3 t3 H fun t12 H =>
  ldK .none H t12 fun t13 H =>
  pFa 0 t3 H fun t14 H =>
  ldK .none H t14 fun t15 H =>
  pEql t15 (.str [98, 108, 111, 99, 107]) H fun t17 H =>
  onBool t17 (ldK (.some 4) H t3 fun t19 H =>
  pC call 125 [t0, t19, .nilsl] H fun _ H =>
  some (.tup [], H)) (pEql t15 (.str [108, 101, 116]) H fun t22 H =>
  onBool t22 (pIa 4 t13 (.int .i64 (.ofNat 1)) H fun t25 H =>
  ldK (.some 4) H t25 fun t26 H =>
  pC call 126 [t0, t26] H fun t27 H =>
  pNew [(.str []), (.str []), (.int .i64 (.ofNat 0)), .nilsl] H fun t5 H =>
  stK 4 H t5 t27 fun _ H =>
  ldK (.some 4) H t5 fun t29 H =>
  pIa 4 t13 (.int .i64 (.ofNat 0)) H fun t31 H =>
  ldK (.some 4) H t31 fun t32 H =>
  ldK (.some 4) H t3 fun t41 H =>
  pC call 127 [t29, t32] H fun t33 H =>
  andR (andB (ckV (aLoad (.some 4) H t3) t41) true) (
  guardA t33 true (S81_4 call t0 t3 t13 t0 t33 t0 t41 H) (S81_4 call t0 t3 t13 t0 t33 U t41 H))) (pEql t15 (.str [115, 101, 116]) H fun t51 H =>
  onBool t51 (pIa 4 t13 (.int .i64 (.ofNat 0)) H fun t54 H =>
  ldK (.some 4) H t54 fun t55 H =>
  pC call 129 [t0, t55] H fun t56 H =>
  pNew [(.str []), (.str []), (.int .i64 (.ofNat 0)), .nilsl] H fun t6 H =>
  stK 4 H t6 t56 fun _ H =>
  pIa 4 t13 (.int .i64 (.ofNat 1)) H fun t59 H =>
  ldK (.some 4) H t59 fun t60 H =>
  pC call 126 [t0, t60] H fun t61 H =>
  pNew [(.str []), (.str []), (.int .i64 (.ofNat 0)), .nilsl] H fun t7 H =>
  stK 4 H t7 t61 fun _ H =>
  ldK (.some 4) H t6 fun t63 H =>
  ldK (.some 4) H t7 fun t64 H =>
  ldK (.some 4) H t3 fun t66 H =>
  pC call 127 [t63, t64] H fun t65 H =>
  andR (andB (ckV (aLoad (.some 4) H t3) t66) true) (
  pC call 21 [t0, t65, t66] H fun _ H =>
  some (.tup [], H))) (pEql t15 (.str [105, 102]) H fun t69 H =>
  onBool t69 (S81_12 call t0 t3 t13 t15 t69 H) (pEql t15 (.str [119, 104, 105, 108, 101]) H fun t70 H =>
  S81_12 call t0 t3 t13 t15 t70 H))))
noncomputable def S81 : Ff := ⟨fun call l H => argA2 (fun t0 t1 => S81_13 call t0 t1 H) l⟩
/- (*gantline/lower.builder).into -/
noncomputable def S84_0 (call : CallFn) (t0 t2 t7 : AV) (H : AHeap) : R :=
  pO (aNil t0) H fun t53 H =>
  pFa 0 t53 H fun t54 H =>
  ldK .none H t54 fun t55 H =>
  pC call 135 [t55, t7] H fun t57 H =>
  pO (someAgg (aFill [(.int .i64 (.ofNat 0)), (.int .i64 (.ofNat 0)), (.int .i64 (.ofNat 0)), (.int .i64 (.ofNat 0)), (.int .i64 (.ofNat 0))] [(0, 1, (.int .i64 (.ofNat 0))), (1, 1, t2), (2, 1, t57)])) H fun t58 H =>
  pC call 28 [t0, t58] H fun _ H =>
  some (.tup [], H)
noncomputable def S84_1 (call : CallFn) (t0 t2 t6 t14 t15 t16 t17 : AV) (H : AHeap) : R :=
  pO (aNil t0) H fun t173 H =>
  pFa 0 t173 H fun t174 H =>
  ldK .none H t174 fun t175 H =>
  pIa 4 t6 (.int .i64 (.ofNat 0)) H fun t178 H =>
  pFa 3 t178 H fun t179 H =>
  ldK .none H t179 fun t180 H =>
  pIa 4 t180 (.int .i64 (.ofNat 0)) H fun t181 H =>
  ldK (.some 4) H t181 fun t182 H =>
  pC call 142 [t175, t17, t182] H fun t183 H =>
  pO (someAgg (aFill [(.int .i64 (.ofNat 0)), (.int .i64 (.ofNat 0)), (.int .i64 (.ofNat 0)), (.int .i64 (.ofNat 0)), (.int .i64 (.ofNat 0))] [(0, 1, t16), (1, 1, t2), (2, 1, t183), (3, 1, t14)])) H fun t185 H =>
  pC call 28 [t0, t185] H fun _ H =>
  pN (aBsl 1 1 [(.int .i64 (.ofNat 0))] [(0, 1, t15)]) H fun t189 H =>
  pC call 92 [t0, t189] H fun _ H =>
  some (.tup [], H)
noncomputable def S84_2 (call : CallFn) (t0 t2 t4 t6 t25 t44 : AV) (H : AHeap) : R :=
  onBool t44 (pFa 0 t4 H fun t47 H =>
  ldK .none H t47 fun t48 H =>
  pEql t48 (.str [116, 114, 117, 101]) H fun t49 H =>
  onBool t49 (S84_0 call t0 t2 (.int .i64 (.ofNat 1)) H) (S84_0 call t0 t2 (.int .i64 (.ofNat 0)) H)) (pEql t25 (.str [110, 105, 108]) H fun t61 H =>
  onBool t61 (pO (someAgg (aFill [(.int .i64 (.ofNat 0)), (.int .i64 (.ofNat 0)), (.int .i64 (.ofNat 0)), (.int .i64 (.ofNat 0)), (.int .i64 (.ofNat 0))] [(0, 1, (.int .i64 (.ofNat 2))), (1, 1, t2)])) H fun t64 H =>
  pC call 28 [t0, t64] H fun _ H =>
  some (.tup [], H)) (pEql t25 (.str [110, 97, 109, 101]) H fun t67 H =>
  onBool t67 (ldK (.some 4) H t4 fun t69 H =>
  pC call 137 [t0, t69, t2] H fun _ H =>
  some (.tup [], H)) (pEql t25 (.str [117, 110, 97, 114, 121]) H fun t73 H =>
  onBool t73 (ldK (.some 4) H t4 fun t75 H =>
  pC call 138 [t0, t75, t2] H fun _ H =>
  some (.tup [], H)) (pEql t25 (.str [98, 105, 110, 97, 114, 121]) H fun t79 H =>
  onBool t79 (ldK (.some 4) H t4 fun t81 H =>
  pC call 139 [t0, t81, t2] H fun _ H =>
  some (.tup [], H)) (pEql t25 (.str [99, 97, 108, 108]) H fun t85 H =>
  onBool t85 (ldK (.some 4) H t4 fun t87 H =>
  pC call 90 [t0, t87, t2, (.bool false)] H fun _ H =>
  some (.tup [], H)) (pEql t25 (.str [105, 110, 100, 101, 120]) H fun t91 H =>
  onBool t91 (pIa 4 t6 (.int .i64 (.ofNat 0)) H fun t95 H =>
  ldK (.some 4) H t95 fun t96 H =>
  pC call 91 [t0, t96] H fun t97 H =>
  pExt t97 0 H fun t98 H =>
  pExt t97 1 H fun t99 H =>
  pIa 4 t6 (.int .i64 (.ofNat 1)) H fun t103 H =>
  ldK (.some 4) H t103 fun t104 H =>
  pC call 91 [t0, t104] H fun t105 H =>
  pExt t105 0 H fun t106 H =>
  pExt t105 1 H fun t107 H =>
  pO (someAgg (aFill [(.int .i64 (.ofNat 0)), (.int .i64 (.ofNat 0)), (.int .i64 (.ofNat 0)), (.int .i64 (.ofNat 0)), (.int .i64 (.ofNat 0))] [(0, 1, (.int .i64 (.ofNat 30))), (1, 1, t2), (2, 1, t98), (3, 1, t106)])) H fun t112 H =>
  pC call 28 [t0, t112] H fun _ H =>
  pN (aBsl 1 2 [(.int .i64 (.ofNat 0))] [(0, 1, t99), (1, 1, t107)]) H fun t117 H =>
  pC call 92 [t0, t117] H fun _ H =>
  some (.tup [], H)) (pEql t25 (.str [100, 111, 116]) H fun t120 H =>
  onBool t120 (pIa 4 t6 (.int .i64 (.ofNat 0)) H fun t124 H =>
  ldK (.some 4) H t124 fun t125 H =>
  pC call 91 [t0, t125] H fun t126 H =>
  pExt t126 0 H fun t127 H =>
  pExt t126 1 H fun t128 H =>
  ldK (.some 4) H t4 fun t133 H =>
  pC call 140 [t0, t133] H fun t134 H =>
  pO (someAgg (aFill [(.int .i64 (.ofNat 0)), (.int .i64 (.ofNat 0)), (.int .i64 (.ofNat 0)), (.int .i64 (.ofNat 0)), (.int .i64 (.ofNat 0))] [(0, 1, (.int .i64 (.ofNat 27))), (1, 1, t2), (2, 1, t127), (3, 1, t134)])) H fun t135 H =>
  pC call 28 [t0, t135] H fun _ H =>
  pN (aBsl 1 1 [(.int .i64 (.ofNat 0))] [(0, 1, t128)]) H fun t139 H =>
  pC call 92 [t0, t139] H fun _ H =>
  some (.tup [], H)) (pEql t25 (.str [110, 101, 119]) H fun t142 H =>
  onBool t142 (pO (aNil t0) H fun t146 H =>
  pFa 0 t146 H fun t147 H =>
  ldK .none H t147 fun t148 H =>
  pFa 1 t4 H fun t149 H =>
  ldK .none H t149 fun t150 H =>
  pC call 141 [t148, t150] H fun t151 H =>
  pO (someAgg (aFill [(.int .i64 (.ofNat 0)), (.int .i64 (.ofNat 0)), (.int .i64 (.ofNat 0)), (.int .i64 (.ofNat 0)), (.int .i64 (.ofNat 0))] [(0, 1, (.int .i64 (.ofNat 25))), (1, 1, t2), (2, 1, t151)])) H fun t152 H =>
  pC call 28 [t0, t152] H fun _ H =>
  some (.tup [], H)) (pEql t25 (.str [109, 97, 107, 101]) H fun t155 H =>
  onBool t155 (pIa 4 t6 (.int .i64 (.ofNat 1)) H fun t159 H =>
  ldK (.some 4) H t159 fun t160 H =>
  pC call 91 [t0, t160] H fun t161 H =>
  pExt t161 0 H fun t162 H =>
  pExt t161 1 H fun t163 H =>
  pIa 4 t6 (.int .i64 (.ofNat 0)) H fun t165 H =>
  pFa 0 t165 H fun t166 H =>
  ldK .none H t166 fun t167 H =>
  pEql t167 (.str [99, 104, 97, 110]) H fun t168 H =>
  onBool t168 (S84_1 call t0 t2 t6 t162 t163 (.int .i64 (.ofNat 37)) (.int .i64 (.ofNat 3)) H) (S84_1 call t0 t2 t6 t162 t163 (.int .i64 (.ofNat 26)) (.int .i64 (.ofNat 1)) H)) (pEql t25 (.str [108, 101, 110]) H fun t192 H =>
  onBool t192 (pIa 4 t6 (.int .i64 (.ofNat 0)) H fun t196 H =>
  ldK (.some 4) H t196 fun t197 H =>
  pC call 91 [t0, t197] H fun t198 H =>
  pExt t198 0 H fun t199 H =>
  pExt t198 1 H fun t200 H =>
  pO (someAgg (aFill [(.int .i64 (.ofNat 0)), (.int .i64 (.ofNat 0)), (.int .i64 (.ofNat 0)), (.int .i64 (.ofNat 0)), (.int .i64 (.ofNat 0))] [(0, 1, (.int .i64 (.ofNat 33))), (1, 1, t2), (2, 1, t199)])) H fun t204 H =>
  pC call 28 [t0, t204] H fun _ H =>
  pN (aBsl 1 1 [(.int .i64 (.ofNat 0))] [(0, 1, t200)]) H fun t208 H =>
  pC call 92 [t0, t208] H fun _ H =>
  some (.tup [], H)) (pEql t25 (.str [114, 101, 99, 118]) H fun t211 H =>
  onBool t211 (pIa 4 t6 (.int .i64 (.ofNat 0)) H fun t215 H =>
  ldK (.some 4) H t215 fun t216 H =>
  pC call 91 [t0, t216] H fun t217 H =>
  pExt t217 0 H fun t218 H =>
  pExt t217 1 H fun t219 H =>
  pO (someAgg (aFill [(.int .i64 (.ofNat 0)), (.int .i64 (.ofNat 0)), (.int .i64 (.ofNat 0)), (.int .i64 (.ofNat 0)), (.int .i64 (.ofNat 0))] [(0, 1, (.int .i64 (.ofNat 39))), (1, 1, t2), (2, 1, t218), (3, 1, (.int .i64 (.negSucc 0)))])) H fun t223 H =>
  pC call 28 [t0, t223] H fun _ H =>
  pN (aBsl 1 1 [(.int .i64 (.ofNat 0))] [(0, 1, t219)]) H fun t227 H =>
  pC call 92 [t0, t227] H fun _ H =>
  some (.tup [], H)) (ldK (.some 4) H t4 fun t27 H =>
  pC call 143 [t0, t27, t2] H fun _ H =>
  some (.tup [], H)))))))))))))
noncomputable def S84_3 (call : CallFn) (t0 t1 t2 : AV) (H : AHeap) : R :=
  pBox t1 H fun t4 H =>
  pFa 3 t4 H fun t22 H =>
  ldK .none H t22 fun t23 H =>
  pFa 0 t4 H fun t24 H =>
  ldK .none H t24 fun t25 H =>
  pEql t25 (.str [110, 117, 109, 98, 101, 114]) H fun t31 H =>
  onBool t31 (pO (aNil t0) H fun t35 H =>
  pFa 0 t35 H fun t36 H =>
  ldK .none H t36 fun t37 H =>
  pFa 1 t4 H fun t38 H =>
  ldK .none H t38 fun t39 H =>
  pC call 136 [t39] H fun t40 H =>
  andR (andB (ckV (aLoad .none H t36) t37) true) (
  pC call 135 [t37, t40] H fun t41 H =>
  pO (someAgg (aFill [(.int .i64 (.ofNat 0)), (.int .i64 (.ofNat 0)), (.int .i64 (.ofNat 0)), (.int .i64 (.ofNat 0)), (.int .i64 (.ofNat 0))] [(0, 1, (.int .i64 (.ofNat 0))), (1, 1, t2), (2, 1, t41)])) H fun t42 H =>
  pC call 28 [t0, t42] H fun _ H =>
  some (.tup [], H))) (pEql t25 (.str [116, 114, 117, 101]) H fun t45 H =>
  onBool t45 (S84_2 call t0 t2 t4 t23 t25 t45 H) (pEql t25 (.str [102, 97, 108, 115, 101]) H fun t46 H =>
  S84_2 call t0 t2 t4 t23 t25 t46 H))
noncomputable def S84 : Ff := ⟨fun call l H => argA3 (fun t0 t1 t2 => S84_3 call t0 t1 t2 H) l⟩
/- (*gantline/lower.builder).one -/
noncomputable def S89_0 (call : CallFn) (t0 t1 t2 : AV) (H : AHeap) : R :=
  pBox t2 H fun t5 H =>
  ldK (.some 4) H t5 fun t10 H =>
  pC call 91 [t0, t10] H fun t11 H =>
  pExt t11 0 H fun t12 H =>
  pExt t11 1 H fun t13 H =>
  pO (someAgg (aFill [(.int .i64 (.ofNat 0)), (.int .i64 (.ofNat 0)), (.int .i64 (.ofNat 0)), (.int .i64 (.ofNat 0)), (.int .i64 (.ofNat 0))] [(0, 1, t1), (1, 1, t12)])) H fun t17 H =>
  pC call 28 [t0, t17] H fun _ H =>
  pN (aBsl 1 1 [(.int .i64 (.ofNat 0))] [(0, 1, t13)]) H fun t21 H =>
  pC call 92 [t0, t21] H fun _ H =>
  some (.tup [], H)
noncomputable def S89 : Ff := ⟨fun call l H => argA3 (fun t0 t1 t2 => S89_0 call t0 t1 t2 H) l⟩
/- (*gantline/lower.builder).operand -/
noncomputable def S91_0 (call : CallFn) (t0 t3 : AV) (H : AHeap) : R :=
  ldK (.some 4) H t3 fun t24 H =>
  pC call 149 [t0, t24] H fun t25 H =>
  pC call 23 [t25] H fun t26 H =>
  pC call 25 [t0, t26] H fun t27 H =>
  ldK (.some 4) H t3 fun t29 H =>
  pC call 84 [t0, t29, t27] H fun _ H =>
  some (.tup [t27, t27], H)
noncomputable def S91_1 (call : CallFn) (t0 t1 : AV) (H : AHeap) : R :=
  pBox t1 H fun t3 H =>
  pFa 0 t3 H fun t9 H =>
  ldK .none H t9 fun t10 H =>
  pEql t10 (.str [110, 97, 109, 101]) H fun t11 H =>
  onBool t11 (pFa 1 t3 H fun t14 H =>
  ldK .none H t14 fun t15 H =>
  pC call 144 [t0, t15] H fun t16 H =>
  pExt t16 0 H fun t17 H =>
  pExt t16 1 H fun t18 H =>
  pNew [(.str []), (.str []), (.str []), (.int .i64 (.ofNat 0)), .nilsl, (.int .i64 (.ofNat 0))] H fun t6 H =>
  stK 6 H t6 t17 fun _ H =>
  onBool t18 (pFa 5 t6 H fun t20 H =>
  ldK .none H t20 fun t21 H =>
  some (.tup [t21, (.int .i64 (.negSucc 0))], H)) (S91_0 call t0 t3 H)) (S91_0 call t0 t3 H)
noncomputable def S91 : Ff := ⟨fun call l H => argA2 (fun t0 t1 => S91_1 call t0 t1 H) l⟩
/- (*gantline/lower.builder).free -/
noncomputable def S92_1 (_ : CallFn) (q0 : AV → AV → AV → AV → AHeap → R) (t0 t6 t7 t8 : AV) (H : AHeap) : R :=
  pAdd t8 (.int .i64 (.ofNat 1)) H fun t20 H =>
  q0 t0 t6 t7 t20 H
noncomputable def S92_0 (call : CallFn) (n : Nat) : AV → AV → AV → AV → AHeap → R :=
  Nat.rec (motive := fun _ => AV → AV → AV → AV → AHeap → R) (fun _ _ _ _ _ => none) (fun _ q0 t0 t6 t7 t8 H => pLss t8 t7 H fun t9 H =>
  onBool t9 (pIa 1 t6 t8 H fun t10 H =>
  ldK .none H t10 fun t11 H =>
  pNeq t11 (.int .i64 (.negSucc 0)) H fun t13 H =>
  onBool t13 (pO (aNil t0) H fun t15 H =>
  pFa 3 t15 H fun t16 H =>
  ldK .none H t16 fun t17 H =>
  pIa 1 t17 t11 H fun t19 H =>
  stK 1 H t19 (.bool false) fun _ H =>
  S92_1 call q0 t0 t6 t7 t8 H) (S92_1 call q0 t0 t6 t7 t8 H)) (some (.tup [], H))) n
noncomputable def S92_2 (call : CallFn) (t0 t1 : AV) (H : AHeap) : R :=
  pO (aLen .sl H t1) H fun t7 H =>
  S92_0 call 1000000 t0 t1 t7 (.int .i64 (.ofNat 0)) H
noncomputable def S92 : Ff := ⟨fun call l H => argA2 (fun t0 t1 => S92_2 call t0 t1 H) l⟩
/- slices.IndexFunc[[]gantline/head.Shape,gantline/head.Shape] -/
noncomputable def S95_0 (call : CallFn) (n : Nat) : AV → AV → AV → AV → AHeap → R :=
  Nat.rec (motive := fun _ => AV → AV → AV → AV → AHeap → R) (fun _ _ _ _ _ => none) (fun _ q0 t0 t1 t7 t8 H => pLss t8 t7 H fun t9 H =>
  onBool t9 (pIa 3 t0 t8 H fun t14 H =>
  ldK (.some 3) H t14 fun t15 H =>
  pV call t1 [t15] H fun t16 H =>
  onBool t16 (some (t8, H)) (pAdd t8 (.int .i64 (.ofNat 1)) H fun t18 H =>
  q0 t0 t1 t7 t18 H)) (some ((.int .i64 (.negSucc 0)), H))) n
noncomputable def S95_1 (call : CallFn) (t0 t1 : AV) (H : AHeap) : R :=
  pO (aLen .sl H t0) H fun t7 H =>
  S95_0 call 1000000 t0 t1 t7 (.int .i64 (.ofNat 0)) H
noncomputable def S95 : Ff := ⟨fun call l H => argA2 (fun t0 t1 => S95_1 call t0 t1 H) l⟩
/- slices.IndexFunc[[]int64,int64] -/
noncomputable def S96_0 (call : CallFn) (n : Nat) : AV → AV → AV → AV → AHeap → R :=
  Nat.rec (motive := fun _ => AV → AV → AV → AV → AHeap → R) (fun _ _ _ _ _ => none) (fun _ q0 t0 t1 t7 t8 H => pLss t8 t7 H fun t9 H =>
  onBool t9 (pIa 1 t0 t8 H fun t14 H =>
  ldK .none H t14 fun t15 H =>
  pV call t1 [t15] H fun t16 H =>
  onBool t16 (some (t8, H)) (pAdd t8 (.int .i64 (.ofNat 1)) H fun t18 H =>
  q0 t0 t1 t7 t18 H)) (some ((.int .i64 (.negSucc 0)), H))) n
noncomputable def S96_1 (call : CallFn) (t0 t1 : AV) (H : AHeap) : R :=
  pO (aLen .sl H t0) H fun t7 H =>
  S96_0 call 1000000 t0 t1 t7 (.int .i64 (.ofNat 0)) H
noncomputable def S96 : Ff := ⟨fun call l H => argA2 (fun t0 t1 => S96_1 call t0 t1 H) l⟩
/- gantline/live.Sets$1 -/
noncomputable def S97_0 (_ : CallFn) (n : Nat) : AV → AV → AV → AV → AV → AHeap → R :=
  Nat.rec (motive := fun _ => AV → AV → AV → AV → AV → AHeap → R) (fun _ _ _ _ _ _ => none) (fun _ q0 t3 t6 t64 t65 t66 H => pLss t66 t65 H fun t67 H =>
  onBool t67 (pIa 1 t64 t66 H fun t68 H =>
  ldK .none H t68 fun t69 H =>
  ldK .none H t3 fun t71 H =>
  pIa 1 t71 t69 H fun t73 H =>
  ldK .none H t73 fun t74 H =>
  pOr t6 t74 H fun t75 H =>
  pAdd t66 (.int .i64 (.ofNat 1)) H fun t76 H =>
  q0 t3 t75 t64 t65 t76 H) (some (t6, H))) n
noncomputable def S97_1 (call : CallFn) (t0 t1 t2 t3 t6 : AV) (H : AHeap) : R :=
  ldK (.some 6) H t2 fun t61 H =>
  ldK (.some 7) H t1 fun t62 H =>
  pC call 100 [t61, t62, t0] H fun t64 H =>
  pO (aLen .sl H t64) H fun t65 H =>
  S97_0 call 1000000 t3 t6 t64 t65 (.int .i64 (.ofNat 0)) H
noncomputable def S97_3 (_ : CallFn) (q1 : AV → AV → AV → AV → AV → AV → AHeap → R) (t1 t3 t6 t23 t24 t25 : AV) (H : AHeap) : R :=
  pAdd t25 (.int .i64 (.ofNat 1)) H fun t59 H =>
  q1 t1 t3 t6 t23 t24 t59 H
noncomputable def S97_4 (call : CallFn) (q1 : AV → AV → AV → AV → AV → AV → AHeap → R) (t1 t3 t6 t9 t23 t24 t25 t32 t38 : AV) (H : AHeap) : R :=
  pPick t32 (.bool true) t38 H fun t39 H =>
  onBool t39 (S97_3 call q1 t1 t3 t6 t23 t24 t25 H) (ldK .none H t3 fun t40 H =>
  pFa 3 t9 H fun t41 H =>
  ldK .none H t41 fun t42 H =>
  pIa 1 t40 t42 H fun t43 H =>
  ldK .none H t43 fun t44 H =>
  pFa 0 t9 H fun t45 H =>
  ldK .none H t45 fun t46 H =>
  pEql t46 (.int .i64 (.ofNat 0)) H fun t47 H =>
  onBool t47 (pFa 2 t9 H fun t50 H =>
  ldK .none H t50 fun t51 H =>
  pN (aBsl 1 1 [(.int .i64 (.ofNat 0))] [(0, 1, t51)]) H fun t52 H =>
  pC call 99 [t52] H fun t53 H =>
  pAndN t44 t53 H fun t54 H =>
  pOr t6 t54 H fun t55 H =>
  S97_3 call q1 t1 t3 t55 t23 t24 t25 H) (pOr t6 t44 H fun t58 H =>
  S97_3 call q1 t1 t3 t58 t23 t24 t25 H))
noncomputable def S97_2 (call : CallFn) (n : Nat) : AV → AV → AV → AV → AV → AV → AHeap → R :=
  Nat.rec (motive := fun _ => AV → AV → AV → AV → AV → AV → AHeap → R) (fun _ _ _ _ _ _ _ => none) (fun _ q1 t1 t3 t6 t23 t24 t25 H => pLss t25 t24 H fun t26 H =>
  onBool t26 (pIa 4 t23 t25 H fun t27 H =>
  ldK (.some 4) H t27 fun t28 H =>
  pNew [(.int .i64 (.ofNat 0)), (.int .i64 (.ofNat 0)), (.int .i64 (.ofNat 0)), (.int .i64 (.ofNat 0))] H fun t9 H =>
  stK 4 H t9 t28 fun _ H =>
  pFa 3 t9 H fun t29 H =>
  ldK .none H t29 fun t30 H =>
  pLss t30 (.int .i64 (.ofNat 0)) H fun t31 H =>
  guardA t31 false (pFa 3 t9 H fun t33 H =>
  ldK .none H t33 fun t34 H =>
  pFa 5 t1 H fun t35 H =>
  ldK .none H t35 fun t36 H =>
  pO (aLen .sl H t36) H fun t37 H =>
  pGeq t34 t37 H fun t38 H =>
  S97_4 call q1 t1 t3 t6 t9 t23 t24 t25 t31 t38 H) (S97_4 call q1 t1 t3 t6 t9 t23 t24 t25 t31 U H)) (some (t6, H))) n
noncomputable def S97_5 (call : CallFn) (t0 t1 t2 t3 : AV) (H : AHeap) : R :=
  pFa 5 t1 H fun t13 H =>
  ldK .none H t13 fun t14 H =>
  pIa 5 t14 t0 H fun t16 H =>
  ldK (.some 5) H t16 fun t17 H =>
  pNew [(.int .i64 (.ofNat 0)), (.int .i64 (.ofNat 0)), (.int .i64 (.ofNat 0)), (.int .i64 (.ofNat 0)), (.int .i64 (.ofNat 0))] H fun t7 H =>
  stK 5 H t7 t17 fun _ H =>
  pFa 0 t7 H fun t18 H =>
  ldK .none H t18 fun t19 H =>
  pEql t19 (.int .i64 (.ofNat 41)) H fun t20 H =>
  onBool t20 (ldK (.some 6) H t2 fun t21 H =>
  ldK (.some 5) H t7 fun t22 H =>
  pC call 98 [t21, t22] H fun t23 H =>
  pO (aLen .sl H t23) H fun t24 H =>
  S97_2 call 1000000 t1 t3 (.int .u64 (.ofNat 0)) t23 t24 (.int .i64 (.ofNat 0)) H) (S97_1 call t0 t1 t2 t3 (.int .u64 (.ofNat 0)) H)
noncomputable def S97 : Ff := ⟨fun call l H => argA4 (fun t0 t1 t2 t3 => S97_5 call t0 t1 t2 t3 H) l⟩
/- gantline/live.bitsOf -/
noncomputable def S99_1 (_ : CallFn) (q0 : AV → AV → AV → AV → AHeap → R) (t3 t6 t7 t8 : AV) (H : AHeap) : R :=
  pAdd t8 (.int .i64 (.ofNat 1)) H fun t23 H =>
  q0 t3 t6 t7 t23 H
noncomputable def S99_2 (call : CallFn) (q0 : AV → AV → AV → AV → AHeap → R) (t3 t5 t6 t7 t8 t14 t16 : AV) (H : AHeap) : R :=
  pPick t14 t16 (.bool false) H fun t17 H =>
  onBool t17 (pConv .u64 t5 H fun t20 H =>
  pO (aBin .shl (.int .u64 (.ofNat 1)) t20) H fun t21 H =>
  pOr t3 t21 H fun t22 H =>
  S99_1 call q0 t22 t6 t7 t8 H) (S99_1 call q0 t3 t6 t7 t8 H)
noncomputable def S99_0 (call : CallFn) (n : Nat) : AV → AV → AV → AV → AHeap → R :=
  Nat.rec (motive := fun _ => AV → AV → AV → AV → AHeap → R) (fun _ _ _ _ _ => none) (fun _ q0 t3 t6 t7 t8 H => pLss t8 t7 H fun t9 H =>
  onBool t9 (pIa 1 t6 t8 H fun t10 H =>
  ldK .none H t10 fun t11 H =>
  pGeq t11 (.int .i64 (.ofNat 0)) H fun t13 H =>
  guardA t13 true (pLss t11 (.int .i64 (.ofNat 64)) H fun t16 H =>
  S99_2 call q0 t3 t11 t6 t7 t8 t13 t16 H) (S99_2 call q0 t3 t11 t6 t7 t8 t13 U H)) (some (t3, H))) n
noncomputable def S99_3 (call : CallFn) (t0 : AV) (H : AHeap) : R :=
  pO (aLen .sl H t0) H fun t7 H =>
  S99_0 call 1000000 (.int .u64 (.ofNat 0)) t0 t7 (.int .i64 (.ofNat 0)) H
noncomputable def S99 : Ff := ⟨fun call l H => argA1 (fun t0 => S99_3 call t0 H) l⟩
/- gantline/live.Follows -/
noncomputable def S100_0 (call : CallFn) (t4 t7 : AV) (H : AHeap) : R :=
  pC call 152 [t7, (.fn 153 [] [t4])] H fun t63 H =>
  pC call 154 [t63] H fun _ H =>
  pC call 155 [t63] H fun t67 H =>
  some (t67, H)
noncomputable def S100_1 (call : CallFn) (n : Nat) : AV → AV → AV → AV → AV → AHeap → R :=
  Nat.rec (motive := fun _ => AV → AV → AV → AV → AV → AHeap → R) (fun _ _ _ _ _ _ => none) (fun _ q0 t4 t7 t49 t50 t51 H => pLss t51 t50 H fun t52 H =>
  onBool t52 (pIa 4 t49 t51 H fun t53 H =>
  ldK (.some 4) H t53 fun t54 H =>
  pNew [(.int .i64 (.ofNat 0)), (.int .i64 (.ofNat 0)), (.int .i64 (.ofNat 0)), (.int .i64 (.ofNat 0))] H fun t10 H =>
  stK 4 H t10 t54 fun _ H =>
  pFa 3 t10 H fun t56 H =>
  ldK .none H t56 fun t57 H =>
  pN (aBsl 1 1 [(.int .i64 (.ofNat 0))] [(0, 1, t57)]) H fun t58 H =>
  pW (aApp 1 8 H t7 t58) fun t59 H =>
  pAdd t51 (.int .i64 (.ofNat 1)) H fun t60 H =>
  q0 t4 t59 t49 t50 t60 H) (S100_0 call t4 t7 H)) n
noncomputable def S100_2 (call : CallFn) (t2 t3 t4 t7 t8 t26 t42 : AV) (H : AHeap) : R :=
  onBool t42 (S100_0 call t4 t7 H) (pEql t26 (.int .i64 (.ofNat 41)) H fun t46 H =>
  onBool t46 (ldK (.some 6) H t3 fun t47 H =>
  ldK (.some 5) H t8 fun t48 H =>
  pC call 98 [t47, t48] H fun t49 H =>
  pO (aLen .sl H t49) H fun t50 H =>
  S100_1 call 1000000 t4 t7 t49 t50 (.int .i64 (.ofNat 0)) H) (pAdd t2 (.int .i64 (.ofNat 1)) H fun t28 H =>
  pN (aBsl 1 1 [(.int .i64 (.ofNat 0))] [(0, 1, t28)]) H fun t29 H =>
  S100_0 call t4 t29 H))
noncomputable def S100_3 (call : CallFn) (t2 t3 t4 t13 t18 : AV) (H : AHeap) : R :=
  pPick t13 (.bool true) t18 H fun t19 H =>
  onBool t19 (some (.nilsl, H)) (pFa 5 t4 H fun t20 H =>
  ldK .none H t20 fun t21 H =>
  pIa 5 t21 t2 H fun t23 H =>
  ldK (.some 5) H t23 fun t24 H =>
  pNew [(.int .i64 (.ofNat 0)), (.int .i64 (.ofNat 0)), (.int .i64 (.ofNat 0)), (.int .i64 (.ofNat 0)), (.int .i64 (.ofNat 0))] H fun t8 H =>
  stK 5 H t8 t24 fun _ H =>
  pFa 0 t8 H fun t25 H =>
  ldK .none H t25 fun t26 H =>
  pEql t26 (.int .i64 (.ofNat 18)) H fun t31 H =>
  onBool t31 (pFa 1 t8 H fun t32 H =>
  ldK .none H t32 fun t33 H =>
  pN (aBsl 1 1 [(.int .i64 (.ofNat 0))] [(0, 1, t33)]) H fun t34 H =>
  S100_0 call t4 t34 H) (pEql t26 (.int .i64 (.ofNat 19)) H fun t36 H =>
  onBool t36 (pFa 2 t8 H fun t37 H =>
  ldK .none H t37 fun t38 H =>
  pAdd t2 (.int .i64 (.ofNat 1)) H fun t40 H =>
  pN (aBsl 1 2 [(.int .i64 (.ofNat 0))] [(0, 1, t38), (1, 1, t40)]) H fun t41 H =>
  S100_0 call t4 t41 H) (pEql t26 (.int .i64 (.ofNat 22)) H fun t43 H =>
  onBool t43 (S100_2 call t2 t3 t4 .nilsl t8 t26 t43 H) (pEql t26 (.int .i64 (.ofNat 44)) H fun t44 H =>
  S100_2 call t2 t3 t4 .nilsl t8 t26 t44 H))))
noncomputable def S100_4 (call : CallFn) (t0 t1 t2 : AV) (H : AHeap) : R :=
  pBox t0 H fun t3 H =>
  pBox t1 H fun t4 H =>
  pLss t2 (.int .i64 (.ofNat 0)) H fun t12 H =>
  guardA t12 false (pFa 5 t4 H fun t15 H =>
  ldK .none H t15 fun t16 H =>
  pO (aLen .sl H t16) H fun t17 H =>
  pGeq t2 t17 H fun t18 H =>
  S100_3 call t2 t3 t4 t12 t18 H) (S100_3 call t2 t3 t4 t12 U H)
noncomputable def S100 : Ff := ⟨fun call l H => argA3 (fun t0 t1 t2 => S100_4 call t0 t1 t2 H) l⟩
/- gantline/live.Reads -/
noncomputable def S101_0 (call : CallFn) (t2 t3 t5 t142 t144 : AV) (H : AHeap) : R :=
  pPick t142 (.bool true) t144 H fun t145 H =>
  onBool t145 (pFa 1 t3 H fun t146 H =>
  ldK .none H t146 fun t147 H =>
  pFa 2 t3 H fun t148 H =>
  ldK .none H t148 fun t149 H =>
  pFa 3 t3 H fun t150 H =>
  ldK .none H t150 fun t151 H =>
  pN (aBsl 1 3 [(.int .i64 (.ofNat 0))] [(0, 1, t147), (1, 1, t149), (2, 1, t151)]) H fun t152 H =>
  some (t152, H)) (pEql t5 (.int .i64 (.ofNat 36)) H fun t155 H =>
  onBool t155 (pFa 3 t3 H fun t156 H =>
  ldK .none H t156 fun t157 H =>
  ldK (.some 6) H t2 fun t158 H =>
  pFa 2 t3 H fun t159 H =>
  ldK .none H t159 fun t160 H =>
  pC call 157 [t158, t160] H fun t161 H =>
  andR (andB (ckV (aLoad .none H t156) t157) true) (
  pO (aFld 1 .none t161) H fun t162 H =>
  pC call 156 [t157, t162] H fun t163 H =>
  some (t163, H))) (pEql t5 (.int .i64 (.ofNat 38)) H fun t166 H =>
  onBool t166 (pFa 1 t3 H fun t167 H =>
  ldK .none H t167 fun t168 H =>
  pFa 2 t3 H fun t169 H =>
  ldK .none H t169 fun t170 H =>
  pN (aBsl 1 2 [(.int .i64 (.ofNat 0))] [(0, 1, t168), (1, 1, t170)]) H fun t171 H =>
  some (t171, H)) (pEql t5 (.int .i64 (.ofNat 41)) H fun t174 H =>
  onBool t174 (ldK (.some 6) H t2 fun t175 H =>
  ldK (.some 5) H t3 fun t176 H =>
  pC call 98 [t175, t176] H fun t177 H =>
  pC call 159 [t177] H fun t178 H =>
  some (t178, H)) (some (.nilsl, H)))))
noncomputable def S101_1 (call : CallFn) (t2 t3 t5 t130 t132 : AV) (H : AHeap) : R :=
  pPick t130 (.bool true) t132 H fun t133 H =>
  onBool t133 (pFa 1 t3 H fun t134 H =>
  ldK .none H t134 fun t135 H =>
  pFa 3 t3 H fun t136 H =>
  ldK .none H t136 fun t137 H =>
  pN (aBsl 1 2 [(.int .i64 (.ofNat 0))] [(0, 1, t135), (1, 1, t137)]) H fun t138 H =>
  some (t138, H)) (pEql t5 (.int .i64 (.ofNat 31)) H fun t141 H =>
  guardA t141 false (pEql t5 (.int .i64 (.ofNat 32)) H fun t144 H =>
  S101_0 call t2 t3 t5 t141 t144 H) (S101_0 call t2 t3 t5 t141 U H))
noncomputable def S101_2 (call : CallFn) (t2 t3 t5 t120 t122 : AV) (H : AHeap) : R :=
  pPick t120 (.bool true) t122 H fun t123 H =>
  onBool t123 (pFa 3 t3 H fun t124 H =>
  ldK .none H t124 fun t125 H =>
  pN (aBsl 1 1 [(.int .i64 (.ofNat 0))] [(0, 1, t125)]) H fun t126 H =>
  some (t126, H)) (pEql t5 (.int .i64 (.ofNat 28)) H fun t129 H =>
  guardA t129 false (pEql t5 (.int .i64 (.ofNat 29)) H fun t132 H =>
  S101_1 call t2 t3 t5 t129 t132 H) (S101_1 call t2 t3 t5 t129 U H))
noncomputable def S101_3 (call : CallFn) (t2 t3 t5 t57 t59 : AV) (H : AHeap) : R :=
  pPick t57 (.bool true) t59 H fun t60 H =>
  onBool t60 (pFa 1 t3 H fun t61 H =>
  ldK .none H t61 fun t62 H =>
  pN (aBsl 1 1 [(.int .i64 (.ofNat 0))] [(0, 1, t62)]) H fun t63 H =>
  some (t63, H)) (pEql t5 (.int .i64 (.ofNat 20)) H fun t66 H =>
  onBool t66 (pFa 3 t3 H fun t67 H =>
  ldK .none H t67 fun t68 H =>
  ldK (.some 6) H t2 fun t69 H =>
  pFa 2 t3 H fun t70 H =>
  ldK .none H t70 fun t71 H =>
  pC call 157 [t69, t71] H fun t72 H =>
  andR (andB (ckV (aLoad .none H t67) t68) true) (
  pO (aFld 0 .none t72) H fun t73 H =>
  pC call 156 [t68, t73] H fun t74 H =>
  some (t74, H))) (pEql t5 (.int .i64 (.ofNat 21)) H fun t77 H =>
  onBool t77 (pFa 2 t3 H fun t78 H =>
  ldK .none H t78 fun t79 H =>
  pN (aBsl 1 1 [(.int .i64 (.ofNat 0))] [(0, 1, t79)]) H fun t80 H =>
  pFa 3 t3 H fun t81 H =>
  ldK .none H t81 fun t82 H =>
  pFa 4 t3 H fun t83 H =>
  ldK .none H t83 fun t84 H =>
  pC call 156 [t82, t84] H fun t85 H =>
  andR (andB (ckV (aLoad .none H t78) t79) true) (
  pW (aApp 1 8 H t80 t85) fun t86 H =>
  some (t86, H))) (pEql t5 (.int .i64 (.ofNat 22)) H fun t89 H =>
  onBool t89 (pFa 1 t3 H fun t90 H =>
  ldK .none H t90 fun t91 H =>
  pN (aBsl 1 1 [(.int .i64 (.ofNat 0))] [(0, 1, t91)]) H fun t92 H =>
  pC call 158 [t92] H fun t93 H =>
  some (t93, H)) (pEql t5 (.int .i64 (.ofNat 23)) H fun t96 H =>
  onBool t96 (pFa 2 t3 H fun t97 H =>
  ldK .none H t97 fun t98 H =>
  ldK (.some 6) H t2 fun t99 H =>
  pFa 1 t3 H fun t100 H =>
  ldK .none H t100 fun t101 H =>
  pC call 157 [t99, t101] H fun t102 H =>
  andR (andB (ckV (aLoad .none H t97) t98) true) (
  pO (aFld 0 .none t102) H fun t103 H =>
  pC call 156 [t98, t103] H fun t104 H =>
  some (t104, H))) (pEql t5 (.int .i64 (.ofNat 24)) H fun t107 H =>
  onBool t107 (pFa 1 t3 H fun t108 H =>
  ldK .none H t108 fun t109 H =>
  pN (aBsl 1 1 [(.int .i64 (.ofNat 0))] [(0, 1, t109)]) H fun t110 H =>
  pFa 2 t3 H fun t111 H =>
  ldK .none H t111 fun t112 H =>
  pFa 3 t3 H fun t113 H =>
  ldK .none H t113 fun t114 H =>
  pC call 156 [t112, t114] H fun t115 H =>
  andR (andB (ckV (aLoad .none H t108) t109) true) (
  pW (aApp 1 8 H t110 t115) fun t116 H =>
  some (t116, H))) (pEql t5 (.int .i64 (.ofNat 26)) H fun t119 H =>
  guardA t119 false (pEql t5 (.int .i64 (.ofNat 37)) H fun t122 H =>
  S101_2 call t2 t3 t5 t119 t122 H) (S101_2 call t2 t3 t5 t119 U H)))))))
noncomputable def S101_4 (call : CallFn) (t2 t3 t5 t53 t55 : AV) (H : AHeap) : R :=
  pPick t53 (.bool true) t55 H fun t56 H =>
  guardA t56 false (pEql t5 (.int .i64 (.ofNat 42)) H fun t59 H =>
  S101_3 call t2 t3 t5 t56 t59 H) (S101_3 call t2 t3 t5 t56 U H)
noncomputable def S101_5 (call : CallFn) (t2 t3 t5 t41 t43 : AV) (H : AHeap) : R :=
  pPick t41 (.bool true) t43 H fun t44 H =>
  onBool t44 (pFa 2 t3 H fun t45 H =>
  ldK .none H t45 fun t46 H =>
  pFa 3 t3 H fun t47 H =>
  ldK .none H t47 fun t48 H =>
  pN (aBsl 1 2 [(.int .i64 (.ofNat 0))] [(0, 1, t46), (1, 1, t48)]) H fun t49 H =>
  some (t49, H)) (pEql t5 (.int .i64 (.ofNat 19)) H fun t52 H =>
  guardA t52 false (pEql t5 (.int .i64 (.ofNat 40)) H fun t55 H =>
  S101_4 call t2 t3 t5 t52 t55 H) (S101_4 call t2 t3 t5 t52 U H))
noncomputable def S101_6 (call : CallFn) (t2 t3 t5 t37 t39 : AV) (H : AHeap) : R :=
  pPick t37 t39 (.bool false) H fun t40 H =>
  guardA t40 false (pEql t5 (.int .i64 (.ofNat 30)) H fun t43 H =>
  S101_5 call t2 t3 t5 t40 t43 H) (S101_5 call t2 t3 t5 t40 U H)
noncomputable def S101_7 (call : CallFn) (t2 t3 t5 t27 t29 : AV) (H : AHeap) : R :=
  pPick t27 (.bool true) t29 H fun t30 H =>
  onBool t30 (pFa 2 t3 H fun t31 H =>
  ldK .none H t31 fun t32 H =>
  pN (aBsl 1 1 [(.int .i64 (.ofNat 0))] [(0, 1, t32)]) H fun t33 H =>
  some (t33, H)) (pGeq t5 (.int .i64 (.ofNat 3)) H fun t36 H =>
  guardA t36 true (pLeq t5 (.int .i64 (.ofNat 16)) H fun t39 H =>
  S101_6 call t2 t3 t5 t36 t39 H) (S101_6 call t2 t3 t5 t36 U H))
noncomputable def S101_8 (call : CallFn) (t2 t3 t5 t23 t25 : AV) (H : AHeap) : R :=
  pPick t23 (.bool true) t25 H fun t26 H =>
  guardA t26 false (pEql t5 (.int .i64 (.ofNat 39)) H fun t29 H =>
  S101_7 call t2 t3 t5 t26 t29 H) (S101_7 call t2 t3 t5 t26 U H)
noncomputable def S101_9 (call : CallFn) (t2 t3 t5 t19 t21 : AV) (H : AHeap) : R :=
  pPick t19 (.bool true) t21 H fun t22 H =>
  guardA t22 false (pEql t5 (.int .i64 (.ofNat 27)) H fun t25 H =>
  S101_8 call t2 t3 t5 t22 t25 H) (S101_8 call t2 t3 t5 t22 U H)
noncomputable def S101_10 (call : CallFn) (t2 t3 t5 t15 t17 : AV) (H : AHeap) : R :=
  pPick t15 (.bool true) t17 H fun t18 H =>
  guardA t18 false (pEql t5 (.int .i64 (.ofNat 35)) H fun t21 H =>
  S101_9 call t2 t3 t5 t18 t21 H) (S101_9 call t2 t3 t5 t18 U H)
noncomputable def S101_11 (call : CallFn) (t2 t3 t5 t11 t13 : AV) (H : AHeap) : R :=
  pPick t11 (.bool true) t13 H fun t14 H =>
  guardA t14 false (pEql t5 (.int .i64 (.ofNat 33)) H fun t17 H =>
  S101_10 call t2 t3 t5 t14 t17 H) (S101_10 call t2 t3 t5 t14 U H)
noncomputable def S101_12 (call : CallFn) (t0 t1 : AV) (H : AHeap) : R :=
  pBox t0 H fun t2 H =>
  pBox t1 H fun t3 H =>
  pFa 0 t3 H fun t6 H =>
  ldK .none H t6 fun t7 H =>
  pEql t7 (.int .i64 (.ofNat 1)) H fun t10 H =>
  guardA t10 false (pEql t7 (.int .i64 (.ofNat 17)) H fun t13 H =>
  S101_11 call t2 t3 t7 t10 t13 H) (S101_11 call t2 t3 t7 t10 U H)
noncomputable def S101 : Ff := ⟨fun call l H => argA2 (fun t0 t1 => S101_12 call t0 t1 H) l⟩
/- gantline/live.Writes -/
noncomputable def S102_0 (call : CallFn) (t1 t3 t47 t49 : AV) (H : AHeap) : R :=
  pPick t47 (.bool true) t49 H fun t50 H =>
  onBool t50 (pFa 1 t1 H fun t51 H =>
  ldK .none H t51 fun t52 H =>
  pN (aBsl 1 1 [(.int .i64 (.ofNat 0))] [(0, 1, t52)]) H fun t53 H =>
  pC call 158 [t53] H fun t54 H =>
  some (t54, H)) (pEql t3 (.int .i64 (.ofNat 39)) H fun t57 H =>
  onBool t57 (pFa 1 t1 H fun t58 H =>
  ldK .none H t58 fun t59 H =>
  pFa 3 t1 H fun t60 H =>
  ldK .none H t60 fun t61 H =>
  pN (aBsl 1 2 [(.int .i64 (.ofNat 0))] [(0, 1, t59), (1, 1, t61)]) H fun t62 H =>
  pC call 158 [t62] H fun t63 H =>
  some (t63, H)) (some (.nilsl, H)))
noncomputable def S102_1 (call : CallFn) (t1 t3 t37 t39 : AV) (H : AHeap) : R :=
  pPick t37 (.bool true) t39 H fun t40 H =>
  onBool t40 (pFa 1 t1 H fun t41 H =>
  ldK .none H t41 fun t42 H =>
  pN (aBsl 1 1 [(.int .i64 (.ofNat 0))] [(0, 1, t42)]) H fun t43 H =>
  some (t43, H)) (pEql t3 (.int .i64 (.ofNat 20)) H fun t46 H =>
  guardA t46 false (pEql t3 (.int .i64 (.ofNat 21)) H fun t49 H =>
  S102_0 call t1 t3 t46 t49 H) (S102_0 call t1 t3 t46 U H))
noncomputable def S102_2 (call : CallFn) (t1 t3 t33 t35 : AV) (H : AHeap) : R :=
  pPick t33 (.bool true) t35 H fun t36 H =>
  guardA t36 false (pEql t3 (.int .i64 (.ofNat 37)) H fun t39 H =>
  S102_1 call t1 t3 t36 t39 H) (S102_1 call t1 t3 t36 U H)
noncomputable def S102_3 (call : CallFn) (t1 t3 t29 t31 : AV) (H : AHeap) : R :=
  pPick t29 (.bool true) t31 H fun t32 H =>
  guardA t32 false (pEql t3 (.int .i64 (.ofNat 36)) H fun t35 H =>
  S102_2 call t1 t3 t32 t35 H) (S102_2 call t1 t3 t32 U H)
noncomputable def S102_4 (call : CallFn) (t1 t3 t25 t27 : AV) (H : AHeap) : R :=
  pPick t25 (.bool true) t27 H fun t28 H =>
  guardA t28 false (pEql t3 (.int .i64 (.ofNat 34)) H fun t31 H =>
  S102_3 call t1 t3 t28 t31 H) (S102_3 call t1 t3 t28 U H)
noncomputable def S102_5 (call : CallFn) (t1 t3 t21 t23 : AV) (H : AHeap) : R :=
  pPick t21 (.bool true) t23 H fun t24 H =>
  guardA t24 false (pEql t3 (.int .i64 (.ofNat 33)) H fun t27 H =>
  S102_4 call t1 t3 t24 t27 H) (S102_4 call t1 t3 t24 U H)
noncomputable def S102_6 (call : CallFn) (t1 t3 t13 t19 : AV) (H : AHeap) : R :=
  pPick t13 (.bool true) t19 H fun t20 H =>
  guardA t20 false (pEql t3 (.int .i64 (.ofNat 30)) H fun t23 H =>
  S102_5 call t1 t3 t20 t23 H) (S102_5 call t1 t3 t20 U H)
noncomputable def S102_7 (call : CallFn) (t1 t3 t13 t16 t18 : AV) (H : AHeap) : R :=
  guardA t13 false (pPick t16 t18 (.bool false) H fun t19 H =>
  S102_6 call t1 t3 t13 t19 H) (S102_6 call t1 t3 t13 U H)
noncomputable def S102_8 (call : CallFn) (t1 t3 t13 t16 : AV) (H : AHeap) : R :=
  guardA t16 true (pLeq t3 (.int .i64 (.ofNat 27)) H fun t18 H =>
  S102_7 call t1 t3 t13 t16 t18 H) (S102_7 call t1 t3 t13 t16 U H)
noncomputable def S102_9 (call : CallFn) (t1 t3 t9 t11 : AV) (H : AHeap) : R :=
  pPick t9 t11 (.bool false) H fun t12 H =>
  guardA t12 false (pGeq t3 (.int .i64 (.ofNat 25)) H fun t15 H =>
  S102_8 call t1 t3 t12 t15 H) (S102_8 call t1 t3 t12 U H)
noncomputable def S102_10 (call : CallFn) (t0 : AV) (H : AHeap) : R :=
  pBox t0 H fun t1 H =>
  pFa 0 t1 H fun t4 H =>
  ldK .none H t4 fun t5 H =>
  pGeq t5 (.int .i64 (.ofNat 0)) H fun t8 H =>
  guardA t8 true (pLeq t5 (.int .i64 (.ofNat 17)) H fun t11 H =>
  S102_9 call t1 t5 t8 t11 H) (S102_9 call t1 t5 t8 U H)
noncomputable def S102 : Ff := ⟨fun call l H => argA1 (fun t0 => S102_10 call t0 H) l⟩
/- (*gantline/verify.checker).slots$1 -/
noncomputable def S103_0 (_ : CallFn) (t6 t9 : AV) (H : AHeap) : R :=
  pPick t6 (.bool true) t9 H fun t10 H =>
  some (t10, H)
noncomputable def S103_1 (call : CallFn) (t0 t1 : AV) (H : AHeap) : R :=
  pEql t0 (.int .i64 (.negSucc 0)) H fun t5 H =>
  guardA t5 false (ldK .none H t1 fun t7 H =>
  pC call 104 [t7, t0] H fun t9 H =>
  S103_0 call t5 t9 H) (S103_0 call t5 U H)
noncomputable def S103 : Ff := ⟨fun call l H => argA2 (fun t0 t1 => S103_1 call t0 t1 H) l⟩
/- (*gantline/verify.checker).slot -/
noncomputable def S104_0 (_ : CallFn) (t7 t14 : AV) (H : AHeap) : R :=
  pPick t7 t14 (.bool false) H fun t15 H =>
  some (t15, H)
noncomputable def S104_1 (call : CallFn) (t0 t1 : AV) (H : AHeap) : R :=
  pGeq t1 (.int .i64 (.ofNat 0)) H fun t6 H =>
  guardA t6 true (pO (aNil t0) H fun t10 H =>
  pFa 6 t10 H fun t11 H =>
  pFa 2 t11 H fun t12 H =>
  ldK .none H t12 fun t13 H =>
  pLss t1 t13 H fun t14 H =>
  S104_0 call t6 t14 H) (S104_0 call t6 U H)
noncomputable def S104 : Ff := ⟨fun call l H => argA2 (fun t0 t1 => S104_1 call t0 t1 H) l⟩
/- slices.ContainsFunc[[]int,int] -/
noncomputable def S111_0 (call : CallFn) (t0 t1 : AV) (H : AHeap) : R :=
  pC call 161 [t0, t1] H fun t7 H =>
  pGeq t7 (.int .i64 (.ofNat 0)) H fun t8 H =>
  some (t8, H)
noncomputable def S111 : Ff := ⟨fun call l H => argA2 (fun t0 t1 => S111_0 call t0 t1 H) l⟩
/- (*gantline/verify.checker).slots$3 -/
noncomputable def S112_0 (call : CallFn) (t0 t1 : AV) (H : AHeap) : R :=
  ldK .none H t1 fun t4 H =>
  pC call 104 [t4, t0] H fun t6 H =>
  pO (aUn .not t6) H fun t7 H =>
  some (t7, H)
noncomputable def S112 : Ff := ⟨fun call l H => argA2 (fun t0 t1 => S112_0 call t0 t1 H) l⟩
/- (*gantline/verify.checker).is -/
noncomputable def S115_0 (call : CallFn) (t0 t1 t2 : AV) (H : AHeap) : R :=
  pBox t0 H fun t3 H =>
  pBox t1 H fun t4 H =>
  pC call 111 [t2, (.fn 162 [] [t3, t4])] H fun t9 H =>
  pO (aUn .not t9) H fun t10 H =>
  some (t10, H)
noncomputable def S115 : Ff := ⟨fun call l H => argA3 (fun t0 t1 t2 => S115_0 call t0 t1 t2 H) l⟩
/- (*gantline/verify.checker).calls -/
noncomputable def S117_0 (_ : CallFn) (t36 t49 : AV) (H : AHeap) : R :=
  pPick t36 (.bool true) t49 H fun t50 H =>
  some (t50, H)
noncomputable def S117_1 (call : CallFn) (t36 t40 t48 : AV) (H : AHeap) : R :=
  guardA t36 false (pPick t40 t48 (.bool false) H fun t49 H =>
  S117_0 call t36 t49 H) (S117_0 call t36 U H)
noncomputable def S117_2 (call : CallFn) (t0 t3 t4 t36 t40 : AV) (H : AHeap) : R :=
  guardA t40 true (pFa 3 t4 H fun t42 H =>
  ldK .none H t42 fun t43 H =>
  pEql t43 (.int .i64 (.ofNat 2)) H fun t44 H =>
  pFa 1 t3 H fun t45 H =>
  ldK .none H t45 fun t46 H =>
  pN (aBsl 1 1 [(.int .i64 (.ofNat 0))] [(0, 1, t46)]) H fun t47 H =>
  pC call 115 [t0, t44, t47] H fun t48 H =>
  S117_1 call t36 t40 t48 H) (S117_1 call t36 t40 U H)
noncomputable def S117_3 (_ : CallFn) (t81 t90 : AV) (H : AHeap) : R :=
  pPick t81 t90 (.bool false) H fun t91 H =>
  some (t91, H)
noncomputable def S117_4 (_ : CallFn) (t109 t120 : AV) (H : AHeap) : R :=
  pPick t109 t120 (.bool false) H fun t121 H =>
  some (t121, H)
noncomputable def S117_5 (call : CallFn) (t109 t110 t116 t119 : AV) (H : AHeap) : R :=
  guardA t109 true (pC call 115 [t110, t116, t119] H fun t120 H =>
  S117_4 call t109 t120 H) (S117_4 call t109 U H)
noncomputable def S117_6 (call : CallFn) (t109 t110 t116 t118 : AV) (H : AHeap) : R :=
  guardA t109 true (pN (aBsl 1 1 [(.int .i64 (.ofNat 0))] [(0, 1, t118)]) H fun t119 H =>
  S117_5 call t109 t110 t116 t119 H) (S117_5 call t109 t110 t116 U H)
noncomputable def S117_7 (call : CallFn) (t109 t110 t116 t117 : AV) (H : AHeap) : R :=
  guardA t109 true (ldK .none H t117 fun t118 H =>
  S117_6 call t109 t110 t116 t118 H) (S117_6 call t109 t110 t116 U H)
noncomputable def S117_8 (call : CallFn) (t3 t109 t110 t116 : AV) (H : AHeap) : R :=
  guardA t109 true (pFa 1 t3 H fun t117 H =>
  S117_7 call t109 t110 t116 t117 H) (S117_7 call t109 t110 t116 U H)
noncomputable def S117_9 (call : CallFn) (t3 t109 t110 t115 : AV) (H : AHeap) : R :=
  guardA t109 true (pEql t115 (.int .i64 (.ofNat 2)) H fun t116 H =>
  S117_8 call t3 t109 t110 t116 H) (S117_8 call t3 t109 t110 U H)
noncomputable def S117_10 (call : CallFn) (t3 t109 t110 t114 : AV) (H : AHeap) : R :=
  guardA t109 true (ldK .none H t114 fun t115 H =>
  S117_9 call t3 t109 t110 t115 H) (S117_9 call t3 t109 t110 U H)
noncomputable def S117_11 (call : CallFn) (t3 t109 t110 t113 : AV) (H : AHeap) : R :=
  guardA t109 true (pFa 3 t113 H fun t114 H =>
  S117_10 call t3 t109 t110 t114 H) (S117_10 call t3 t109 t110 U H)
noncomputable def S117_12 (call : CallFn) (t3 t109 t110 t112 : AV) (H : AHeap) : R :=
  guardA t109 true (pFa 6 t112 H fun t113 H =>
  S117_11 call t3 t109 t110 t113 H) (S117_11 call t3 t109 t110 U H)
noncomputable def S117_13 (call : CallFn) (t3 t109 t110 t111 : AV) (H : AHeap) : R :=
  guardA t109 true (pO (aNil t111) H fun t112 H =>
  S117_12 call t3 t109 t110 t112 H) (S117_12 call t3 t109 t110 U H)
noncomputable def S117_14 (call : CallFn) (t0 t3 t109 t110 : AV) (H : AHeap) : R :=
  guardA t109 true (S117_13 call t3 t109 t110 t0 H) (S117_13 call t3 t109 t110 U H)
noncomputable def S117_15 (call : CallFn) (t0 : AV) (H : AHeap) : R :=
  pO (aNil t0) H fun t11 H =>
  pFa 17 t11 H fun t12 H =>
  ldK (.some 5) H t12 fun t13 H =>
  pNew [(.int .i64 (.ofNat 0)), (.int .i64 (.ofNat 0)), (.int .i64 (.ofNat 0)), (.int .i64 (.ofNat 0)), (.int .i64 (.ofNat 0))] H fun t3 H =>
  stK 5 H t3 t13 fun _ H =>
  pFa 0 t3 H fun t14 H =>
  ldK .none H t14 fun t15 H =>
  pEql t15 (.int .i64 (.ofNat 20)) H fun t17 H =>
  onBool t17 (pFa 2 t3 H fun t20 H =>
  ldK .none H t20 fun t21 H =>
  pC call 107 [t0, t21] H fun t22 H =>
  pExt t22 0 H fun t23 H =>
  pExt t22 1 H fun _ H =>
  pNew [(.int .i64 (.ofNat 0)), (.int .i64 (.ofNat 0)), (.int .i64 (.ofNat 0)), (.int .i64 (.ofNat 0)), .nilsl, .nilsl, .nilsl] H fun t4 H =>
  stK 7 H t4 t23 fun _ H =>
  ldK (.some 7) H t4 fun t26 H =>
  pFa 3 t3 H fun t27 H =>
  ldK .none H t27 fun t28 H =>
  pFa 0 t4 H fun t29 H =>
  ldK .none H t29 fun t30 H =>
  pC call 163 [t0, t26, (.int .i64 (.ofNat 0)), t28, t30] H fun t31 H =>
  pO (aUn .not t31) H fun t32 H =>
  onBool t32 (some ((.bool false), H)) (pFa 1 t3 H fun t33 H =>
  ldK .none H t33 fun t34 H =>
  pEql t34 (.int .i64 (.negSucc 0)) H fun t35 H =>
  guardA t35 false (pFa 3 t4 H fun t37 H =>
  ldK .none H t37 fun t38 H =>
  pGtr t38 (.int .i64 (.ofNat 0)) H fun t39 H =>
  S117_2 call t0 t3 t4 t35 t39 H) (S117_2 call t0 t3 t4 t35 U H))) (pEql t15 (.int .i64 (.ofNat 23)) H fun t52 H =>
  onBool t52 (pFa 1 t3 H fun t55 H =>
  ldK .none H t55 fun t56 H =>
  pC call 107 [t0, t56] H fun t57 H =>
  pExt t57 0 H fun t58 H =>
  pExt t57 1 H fun _ H =>
  pNew [(.int .i64 (.ofNat 0)), (.int .i64 (.ofNat 0)), (.int .i64 (.ofNat 0)), (.int .i64 (.ofNat 0)), .nilsl, .nilsl, .nilsl] H fun t6 H =>
  stK 7 H t6 t58 fun _ H =>
  ldK (.some 7) H t6 fun t61 H =>
  pFa 2 t3 H fun t62 H =>
  ldK .none H t62 fun t63 H =>
  pFa 0 t6 H fun t64 H =>
  ldK .none H t64 fun t65 H =>
  pC call 163 [t0, t61, (.int .i64 (.ofNat 0)), t63, t65] H fun t66 H =>
  some (t66, H)) (pEql t15 (.int .i64 (.ofNat 36)) H fun t68 H =>
  onBool t68 (pFa 2 t3 H fun t71 H =>
  ldK .none H t71 fun t72 H =>
  pC call 107 [t0, t72] H fun t73 H =>
  pExt t73 0 H fun t74 H =>
  pExt t73 1 H fun _ H =>
  pNew [(.int .i64 (.ofNat 0)), (.int .i64 (.ofNat 0)), (.int .i64 (.ofNat 0)), (.int .i64 (.ofNat 0)), .nilsl, .nilsl, .nilsl] H fun t8 H =>
  stK 7 H t8 t74 fun _ H =>
  pFa 1 t3 H fun t77 H =>
  ldK .none H t77 fun t78 H =>
  pN (aBsl 1 1 [(.int .i64 (.ofNat 0))] [(0, 1, t78)]) H fun t79 H =>
  pC call 115 [t0, (.bool true), t79] H fun t80 H =>
  guardA t80 true (ldK (.some 7) H t8 fun t83 H =>
  pFa 0 t8 H fun t84 H =>
  ldK .none H t84 fun t85 H =>
  pFa 3 t3 H fun t86 H =>
  ldK .none H t86 fun t87 H =>
  pFa 1 t8 H fun t88 H =>
  ldK .none H t88 fun t89 H =>
  pC call 163 [t0, t83, t85, t87, t89] H fun t90 H =>
  S117_3 call t80 t90 H) (S117_3 call t80 U H)) (pEql t15 (.int .i64 (.ofNat 22)) H fun t93 H =>
  onBool t93 (pFa 1 t3 H fun t94 H =>
  ldK .none H t94 fun t95 H =>
  pEql t95 (.int .i64 (.negSucc 0)) H fun t96 H =>
  onBool t96 (pO (aNil t0) H fun t98 H =>
  pFa 6 t98 H fun t99 H =>
  pFa 3 t99 H fun t100 H =>
  ldK .none H t100 fun t101 H =>
  pEql t101 (.int .i64 (.ofNat 0)) H fun t102 H =>
  some (t102, H)) (pO (aNil t0) H fun t104 H =>
  pFa 6 t104 H fun t105 H =>
  pFa 3 t105 H fun t106 H =>
  ldK .none H t106 fun t107 H =>
  pGtr t107 (.int .i64 (.ofNat 0)) H fun t108 H =>
  guardA t108 true (S117_14 call t0 t3 t108 t0 H) (S117_14 call t0 t3 t108 U H))) (some ((.bool true), H)))))
noncomputable def S117 : Ff := ⟨fun call l H => argA1 (fun t0 => S117_15 call t0 H) l⟩
/- (*gantline/verify.checker).targets -/
noncomputable def S118_0 (_ : CallFn) (n : Nat) : AV → AV → AV → AV → AHeap → R :=
  Nat.rec (motive := fun _ => AV → AV → AV → AV → AHeap → R) (fun _ _ _ _ _ => none) (fun _ q0 t3 t36 t37 t38 H => pLss t38 t37 H fun t39 H =>
  onBool t39 (pIa 4 t36 t38 H fun t40 H =>
  ldK (.some 4) H t40 fun t41 H =>
  pNew [(.int .i64 (.ofNat 0)), (.int .i64 (.ofNat 0)), (.int .i64 (.ofNat 0)), (.int .i64 (.ofNat 0))] H fun t7 H =>
  stK 4 H t7 t41 fun _ H =>
  pFa 3 t7 H fun t43 H =>
  ldK .none H t43 fun t44 H =>
  pN (aBsl 1 1 [(.int .i64 (.ofNat 0))] [(0, 1, t44)]) H fun t45 H =>
  pW (aApp 1 8 H t3 t45) fun t46 H =>
  pAdd t38 (.int .i64 (.ofNat 1)) H fun t47 H =>
  q0 t46 t36 t37 t47 H) (some (t3, H))) n
noncomputable def S118_1 (call : CallFn) (t0 : AV) (H : AHeap) : R :=
  pO (aNil t0) H fun t9 H =>
  pFa 17 t9 H fun t10 H =>
  pFa 0 t10 H fun t11 H =>
  ldK .none H t11 fun t12 H =>
  pEql t12 (.int .i64 (.ofNat 18)) H fun t14 H =>
  onBool t14 (pO (aNil t0) H fun t16 H =>
  pFa 17 t16 H fun t17 H =>
  pFa 1 t17 H fun t18 H =>
  ldK .none H t18 fun t19 H =>
  pN (aBsl 1 1 [(.int .i64 (.ofNat 0))] [(0, 1, t19)]) H fun t20 H =>
  some (t20, H)) (pEql t12 (.int .i64 (.ofNat 19)) H fun t22 H =>
  onBool t22 (pO (aNil t0) H fun t24 H =>
  pFa 17 t24 H fun t25 H =>
  pFa 2 t25 H fun t26 H =>
  ldK .none H t26 fun t27 H =>
  pN (aBsl 1 1 [(.int .i64 (.ofNat 0))] [(0, 1, t27)]) H fun t28 H =>
  some (t28, H)) (pEql t12 (.int .i64 (.ofNat 41)) H fun t30 H =>
  onBool t30 (pC call 108 [t0] H fun t33 H =>
  pExt t33 0 H fun t34 H =>
  pExt t33 1 H fun _ H =>
  pO (aLen .sl H t34) H fun t37 H =>
  S118_0 call 1000000 .nilsl t34 t37 (.int .i64 (.ofNat 0)) H) (some (.nilsl, H))))
noncomputable def S118 : Ff := ⟨fun call l H => argA1 (fun t0 => S118_1 call t0 H) l⟩
/- (*gantline/gantlineref19.parser).begins -/
noncomputable def S121_0 (_ : CallFn) (t8 t32 : AV) (H : AHeap) : R :=
  pPick t8 t32 (.bool false) H fun t33 H =>
  some (t33, H)
noncomputable def S121_1 (call : CallFn) (t8 t29 t31 : AV) (H : AHeap) : R :=
  guardA t8 true (pPick t29 (.bool true) t31 H fun t32 H =>
  S121_0 call t8 t32 H) (S121_0 call t8 U H)
noncomputable def S121_2 (call : CallFn) (t0 t8 t29 : AV) (H : AHeap) : R :=
  guardA t29 false (pC call 44 [t0, (.str [102, 117, 110, 99])] H fun t31 H =>
  S121_1 call t8 t29 t31 H) (S121_1 call t8 t29 U H)
noncomputable def S121_3 (call : CallFn) (t0 t8 t25 t27 : AV) (H : AHeap) : R :=
  guardA t8 true (pPick t25 (.bool true) t27 H fun t28 H =>
  S121_2 call t0 t8 t28 H) (S121_2 call t0 t8 U H)
noncomputable def S121_4 (call : CallFn) (t0 t8 t25 : AV) (H : AHeap) : R :=
  guardA t25 false (pC call 44 [t0, (.str [99, 104, 97, 110])] H fun t27 H =>
  S121_3 call t0 t8 t25 t27 H) (S121_3 call t0 t8 t25 U H)
noncomputable def S121_5 (call : CallFn) (t0 t8 t21 t23 : AV) (H : AHeap) : R :=
  guardA t8 true (pPick t21 (.bool true) t23 H fun t24 H =>
  S121_4 call t0 t8 t24 H) (S121_4 call t0 t8 U H)
noncomputable def S121_6 (call : CallFn) (t0 t8 t21 : AV) (H : AHeap) : R :=
  guardA t21 false (pC call 44 [t0, (.str [91])] H fun t23 H =>
  S121_5 call t0 t8 t21 t23 H) (S121_5 call t0 t8 t21 U H)
noncomputable def S121_7 (call : CallFn) (t0 t8 t17 t19 : AV) (H : AHeap) : R :=
  guardA t8 true (pPick t17 (.bool true) t19 H fun t20 H =>
  S121_6 call t0 t8 t20 H) (S121_6 call t0 t8 U H)
noncomputable def S121_8 (call : CallFn) (t0 t8 t17 : AV) (H : AHeap) : R :=
  guardA t17 false (pC call 44 [t0, (.str [98, 111, 111, 108])] H fun t19 H =>
  S121_7 call t0 t8 t17 t19 H) (S121_7 call t0 t8 t17 U H)
noncomputable def S121_9 (call : CallFn) (t0 t8 t13 t15 : AV) (H : AHeap) : R :=
  guardA t8 true (pPick t13 (.bool true) t15 H fun t16 H =>
  S121_8 call t0 t8 t16 H) (S121_8 call t0 t8 U H)
noncomputable def S121_10 (call : CallFn) (t0 t8 t13 : AV) (H : AHeap) : R :=
  guardA t13 false (pC call 44 [t0, (.str [105, 110, 116])] H fun t15 H =>
  S121_9 call t0 t8 t13 t15 H) (S121_9 call t0 t8 t13 U H)
noncomputable def S121_11 (call : CallFn) (t0 : AV) (H : AHeap) : R :=
  pO (aNil t0) H fun t4 H =>
  pFa 2 t4 H fun t5 H =>
  ldK .none H t5 fun t6 H =>
  pLss t6 (.int .i64 (.ofNat 0)) H fun t7 H =>
  guardA t7 true (pC call 40 [t0] H fun t10 H =>
  pO (aFld 0 .none t10) H fun t11 H =>
  pEql t11 (.int .i64 (.ofNat 1)) H fun t12 H =>
  S121_10 call t0 t7 t12 H) (S121_10 call t0 t7 U H)
noncomputable def S121 : Ff := ⟨fun call l H => argA1 (fun t0 => S121_11 call t0 H) l⟩
/- (*gantline/gantlineref19.parser).stmt -/
noncomputable def S122_0 (call : CallFn) (t0 t2 t3 : AV) (H : AHeap) : R :=
  pC call 172 [t0] H fun t179 H =>
  pNew [(.str []), (.str []), (.int .i64 (.ofNat 0)), .nilsl] H fun t18 H =>
  stK 4 H t18 t179 fun _ H =>
  pC call 40 [t0] H fun t181 H =>
  pO (aFld 2 .none t181) H fun t182 H =>
  pC call 41 [t0, (.str [61])] H fun t184 H =>
  onBool t184 (ldK (.some 4) H t18 fun t186 H =>
  pNew [(.str []), (.str []), (.int .i64 (.ofNat 0)), .nilsl] H fun t20 H =>
  pC call 172 [t0] H fun t188 H =>
  andR (andB (ckV (aLoad (.some 4) H t18) t186) true) (
  pN (aBsl 4 2 [(.str []), (.str []), (.int .i64 (.ofNat 0)), .nilsl] [(0, 4, t186), (4, 4, t188)]) H fun t189 H =>
  pO (someAgg (aFill [(.str []), (.str []), (.int .i64 (.ofNat 0)), .nilsl] [(0, 1, (.str [115, 101, 116])), (2, 1, t182), (3, 1, t189)])) H fun t190 H =>
  stK 4 H t20 t190 fun _ H =>
  pC call 43 [t0, (.str [59])] H fun _ H =>
  ldK (.some 4) H t20 fun t193 H =>
  stK 4 H t2 t193 fun _ H =>
  ob (allM (fun o => o) [aLoad (.some 4) H t2]) fun vs => some (resV vs, H))) (pC call 43 [t0, (.str [59])] H fun _ H =>
  ldK (.some 4) H t18 fun t197 H =>
  pN (aBsl 4 1 [(.str []), (.str []), (.int .i64 (.ofNat 0)), .nilsl] [(0, 4, t197)]) H fun t198 H =>
  pO (someAgg (aFill [(.str []), (.str []), (.int .i64 (.ofNat 0)), .nilsl] [(0, 1, (.str [100, 111])), (2, 1, t3), (3, 1, t198)])) H fun t199 H =>
  stK 4 H t2 t199 fun _ H =>
  ob (allM (fun o => o) [aLoad (.some 4) H t2]) fun vs => some (resV vs, H))
noncomputable def S122_1 (_ : CallFn) (t2 t3 t9 t10 t11 : AV) (H : AHeap) : R :=
  ldK (.some 4) H t9 fun t85 H =>
  ldK (.some 4) H t10 fun t86 H =>
  ldK (.some 4) H t11 fun t87 H =>
  pN (aBsl 4 3 [(.str []), (.str []), (.int .i64 (.ofNat 0)), .nilsl] [(0, 4, t85), (4, 4, t86), (8, 4, t87)]) H fun t88 H =>
  pO (someAgg (aFill [(.str []), (.str []), (.int .i64 (.ofNat 0)), .nilsl] [(0, 1, (.str [105, 102])), (2, 1, t3), (3, 1, t88)])) H fun t89 H =>
  stK 4 H t2 t89 fun _ H =>
  ob (allM (fun o => o) [aLoad (.some 4) H t2]) fun vs => some (resV vs, H)
noncomputable def S122_2 (call : CallFn) (t0 t2 t3 t13 : AV) (H : AHeap) : R :=
  pC call 43 [t0, (.str [59])] H fun _ H =>
  ldK (.some 4) H t13 fun t116 H =>
  pN (aBsl 4 1 [(.str []), (.str []), (.int .i64 (.ofNat 0)), .nilsl] [(0, 4, t116)]) H fun t117 H =>
  pO (someAgg (aFill [(.str []), (.str []), (.int .i64 (.ofNat 0)), .nilsl] [(0, 1, (.str [114, 101, 116, 117, 114, 110])), (2, 1, t3), (3, 1, t117)])) H fun t118 H =>
  stK 4 H t2 t118 fun _ H =>
  ob (allM (fun o => o) [aLoad (.some 4) H t2]) fun vs => some (resV vs, H)
noncomputable def S122_3 (call : CallFn) (t0 t2 t3 t14 : AV) (H : AHeap) : R :=
  pC call 43 [t0, (.str [59])] H fun _ H =>
  ldK (.some 4) H t14 fun t132 H =>
  pN (aBsl 4 1 [(.str []), (.str []), (.int .i64 (.ofNat 0)), .nilsl] [(0, 4, t132)]) H fun t133 H =>
  pO (someAgg (aFill [(.str []), (.str []), (.int .i64 (.ofNat 0)), .nilsl] [(0, 1, (.str [103, 111])), (2, 1, t3), (3, 1, t133)])) H fun t134 H =>
  stK 4 H t2 t134 fun _ H =>
  ob (allM (fun o => o) [aLoad (.some 4) H t2]) fun vs => some (resV vs, H)
noncomputable def S122_4 (call : CallFn) (t0 t2 t17 : AV) (H : AHeap) : R :=
  pC call 43 [t0, (.str [125])] H fun _ H =>
  ldK (.some 4) H t17 fun t177 H =>
  stK 4 H t2 t177 fun _ H =>
  ob (allM (fun o => o) [aLoad (.some 4) H t2]) fun vs => some (resV vs, H)
noncomputable def S122_6 (call : CallFn) (q0 : AV → AV → AV → AHeap → R) (t0 t2 t17 t163 t166 : AV) (H : AHeap) : R :=
  pPick t163 t166 (.bool false) H fun t167 H =>
  onBool t167 (pFa 3 t17 H fun t168 H =>
  ldK .none H t168 fun t169 H =>
  pC call 173 [t0] H fun t171 H =>
  andR (andB (ckV (aLoad .none H t168) t169) true) (
  pN (aBsl 4 1 [(.str []), (.str []), (.int .i64 (.ofNat 0)), .nilsl] [(0, 4, t171)]) H fun t172 H =>
  pW (aApp 4 64 H t169 t172) fun t173 H =>
  pFa 3 t17 H fun t174 H =>
  stK 1 H t174 t173 fun _ H =>
  q0 t0 t2 t17 H)) (S122_4 call t0 t2 t17 H)
noncomputable def S122_5 (call : CallFn) (n : Nat) : AV → AV → AV → AHeap → R :=
  Nat.rec (motive := fun _ => AV → AV → AV → AHeap → R) (fun _ _ _ _ => none) (fun _ q0 t0 t2 t17 H => pO (aNil t0) H fun t159 H =>
  pFa 2 t159 H fun t160 H =>
  ldK .none H t160 fun t161 H =>
  pLss t161 (.int .i64 (.ofNat 0)) H fun t162 H =>
  guardA t162 true (pC call 44 [t0, (.str [125])] H fun t165 H =>
  pO (aUn .not t165) H fun t166 H =>
  S122_6 call q0 t0 t2 t17 t162 t166 H) (S122_6 call q0 t0 t2 t17 t162 U H)) n
noncomputable def S122_7 (call : CallFn) (t0 t2 t3 : AV) (H : AHeap) : R :=
  pC call 44 [t0, (.str [123])] H fun t47 H =>
  onBool t47 (pC call 78 [t0] H fun t49 H =>
  stK 4 H t2 t49 fun _ H =>
  ob (allM (fun o => o) [aLoad (.some 4) H t2]) fun vs => some (resV vs, H)) (pC call 41 [t0, (.str [118, 97, 114])] H fun t52 H =>
  onBool t52 (pC call 42 [t0] H fun t55 H =>
  pO (someAgg (aFill [(.str []), (.str []), (.int .i64 (.ofNat 0)), .nilsl] [(0, 1, (.str [108, 101, 116])), (2, 1, t3), (1, 1, t55)])) H fun t56 H =>
  pNew [(.str []), (.str []), (.int .i64 (.ofNat 0)), .nilsl] H fun t7 H =>
  stK 4 H t7 t56 fun _ H =>
  pC call 45 [t0] H fun t58 H =>
  pNew [(.str []), (.str []), (.int .i64 (.ofNat 0)), .nilsl] H fun t8 H =>
  stK 4 H t8 t58 fun _ H =>
  pC call 43 [t0, (.str [61])] H fun _ H =>
  ldK (.some 4) H t8 fun t61 H =>
  pC call 172 [t0] H fun t63 H =>
  andR (andB (ckV (aLoad (.some 4) H t8) t61) true) (
  pN (aBsl 4 2 [(.str []), (.str []), (.int .i64 (.ofNat 0)), .nilsl] [(0, 4, t61), (4, 4, t63)]) H fun t64 H =>
  pFa 3 t7 H fun t65 H =>
  stK 1 H t65 t64 fun _ H =>
  pC call 43 [t0, (.str [59])] H fun _ H =>
  ldK (.some 4) H t7 fun t68 H =>
  stK 4 H t2 t68 fun _ H =>
  ob (allM (fun o => o) [aLoad (.some 4) H t2]) fun vs => some (resV vs, H))) (pC call 41 [t0, (.str [105, 102])] H fun t71 H =>
  onBool t71 (pC call 172 [t0] H fun t73 H =>
  pNew [(.str []), (.str []), (.int .i64 (.ofNat 0)), .nilsl] H fun t9 H =>
  stK 4 H t9 t73 fun _ H =>
  pC call 78 [t0] H fun t75 H =>
  pNew [(.str []), (.str []), (.int .i64 (.ofNat 0)), .nilsl] H fun t10 H =>
  stK 4 H t10 t75 fun _ H =>
  pC call 40 [t0] H fun t77 H =>
  pO (aFld 2 .none t77) H fun t78 H =>
  pO (someAgg (aFill [(.str []), (.str []), (.int .i64 (.ofNat 0)), .nilsl] [(0, 1, (.str [110, 111, 110, 101])), (2, 1, t78)])) H fun t79 H =>
  pNew [(.str []), (.str []), (.int .i64 (.ofNat 0)), .nilsl] H fun t11 H =>
  stK 4 H t11 t79 fun _ H =>
  pC call 41 [t0, (.str [101, 108, 115, 101])] H fun t81 H =>
  onBool t81 (pC call 78 [t0] H fun t83 H =>
  stK 4 H t11 t83 fun _ H =>
  S122_1 call t2 t3 t9 t10 t11 H) (S122_1 call t2 t3 t9 t10 t11 H)) (pC call 41 [t0, (.str [119, 104, 105, 108, 101])] H fun t92 H =>
  onBool t92 (pC call 172 [t0] H fun t94 H =>
  pNew [(.str []), (.str []), (.int .i64 (.ofNat 0)), .nilsl] H fun t12 H =>
  stK 4 H t12 t94 fun _ H =>
  ldK (.some 4) H t12 fun t96 H =>
  pC call 78 [t0] H fun t98 H =>
  andR (andB (ckV (aLoad (.some 4) H t12) t96) true) (
  pN (aBsl 4 2 [(.str []), (.str []), (.int .i64 (.ofNat 0)), .nilsl] [(0, 4, t96), (4, 4, t98)]) H fun t99 H =>
  pO (someAgg (aFill [(.str []), (.str []), (.int .i64 (.ofNat 0)), .nilsl] [(0, 1, (.str [119, 104, 105, 108, 101])), (2, 1, t3), (3, 1, t99)])) H fun t100 H =>
  stK 4 H t2 t100 fun _ H =>
  ob (allM (fun o => o) [aLoad (.some 4) H t2]) fun vs => some (resV vs, H))) (pC call 41 [t0, (.str [114, 101, 116, 117, 114, 110])] H fun t103 H =>
  onBool t103 (pC call 40 [t0] H fun t105 H =>
  pO (aFld 2 .none t105) H fun t106 H =>
  pO (someAgg (aFill [(.str []), (.str []), (.int .i64 (.ofNat 0)), .nilsl] [(0, 1, (.str [110, 111, 110, 101])), (2, 1, t106)])) H fun t107 H =>
  pNew [(.str []), (.str []), (.int .i64 (.ofNat 0)), .nilsl] H fun t13 H =>
  stK 4 H t13 t107 fun _ H =>
  pC call 44 [t0, (.str [59])] H fun t109 H =>
  pO (aUn .not t109) H fun t110 H =>
  onBool t110 (pC call 172 [t0] H fun t112 H =>
  stK 4 H t13 t112 fun _ H =>
  S122_2 call t0 t2 t3 t13 H) (S122_2 call t0 t2 t3 t13 H)) (pC call 41 [t0, (.str [103, 111])] H fun t121 H =>
  onBool t121 (pC call 172 [t0] H fun t123 H =>
  pNew [(.str []), (.str []), (.int .i64 (.ofNat 0)), .nilsl] H fun t14 H =>
  stK 4 H t14 t123 fun _ H =>
  pFa 0 t14 H fun t124 H =>
  ldK .none H t124 fun t125 H =>
  pNeq t125 (.str [99, 97, 108, 108]) H fun t126 H =>
  onBool t126 (pC call 47 [t0] H fun _ H =>
  S122_3 call t0 t2 t3 t14 H) (S122_3 call t0 t2 t3 t14 H)) (pC call 41 [t0, (.str [115, 101, 110, 100])] H fun t137 H =>
  onBool t137 (pC call 172 [t0] H fun t139 H =>
  pNew [(.str []), (.str []), (.int .i64 (.ofNat 0)), .nilsl] H fun t15 H =>
  stK 4 H t15 t139 fun _ H =>
  pC call 43 [t0, (.str [44])] H fun _ H =>
  ldK (.some 4) H t15 fun t143 H =>
  pNew [(.str []), (.str []), (.int .i64 (.ofNat 0)), .nilsl] H fun t16 H =>
  pC call 172 [t0] H fun t145 H =>
  andR (andB (ckV (aLoad (.some 4) H t15) t143) true) (
  pN (aBsl 4 2 [(.str []), (.str []), (.int .i64 (.ofNat 0)), .nilsl] [(0, 4, t143), (4, 4, t145)]) H fun t146 H =>
  pO (someAgg (aFill [(.str []), (.str []), (.int .i64 (.ofNat 0)), .nilsl] [(0, 1, (.str [115, 101, 110, 100])), (2, 1, t3), (3, 1, t146)])) H fun t147 H =>
  stK 4 H t16 t147 fun _ H =>
  pC call 43 [t0, (.str [59])] H fun _ H =>
  ldK (.some 4) H t16 fun t150 H =>
  stK 4 H t2 t150 fun _ H =>
  ob (allM (fun o => o) [aLoad (.some 4) H t2]) fun vs => some (resV vs, H))) (pC call 41 [t0, (.str [115, 101, 108, 101, 99, 116])] H fun t153 H =>
  onBool t153 (pO (someAgg (aFill [(.str []), (.str []), (.int .i64 (.ofNat 0)), .nilsl] [(0, 1, (.str [115, 101, 108, 101, 99, 116])), (2, 1, t3)])) H fun t155 H =>
  pNew [(.str []), (.str []), (.int .i64 (.ofNat 0)), .nilsl] H fun t17 H =>
  stK 4 H t17 t155 fun _ H =>
  pC call 43 [t0, (.str [123])] H fun _ H =>
  S122_5 call 1000000 t0 t2 t17 H) (S122_0 call t0 t2 t3 H))))))))
noncomputable def S122_8 (call : CallFn) (n : Nat) : AV → AV → AV → AV → AV → AHeap → R :=
  Nat.rec (motive := fun _ => AV → AV → AV → AV → AV → AHeap → R) (fun _ _ _ _ _ _ => none) (fun _ q1 t0 t2 t3 t4 t5 H => pLss t5 (.int .i64 (.ofNat 2)) H fun t26 H =>
  onBool t26 (pIaA 1 2 t4 t5 H fun t31 H =>
  ldK .none H t31 fun t32 H =>
  pC call 41 [t0, t32] H fun t33 H =>
  onBool t33 (pIaA 1 2 t4 t5 H fun t35 H =>
  ldK .none H t35 fun t36 H =>
  pNew [(.str []), (.str []), (.int .i64 (.ofNat 0)), .nilsl] H fun t6 H =>
  pC call 172 [t0] H fun t39 H =>
  andR (andB (ckV (aLoad .none H t35) t36) true) (
  pN (aBsl 4 1 [(.str []), (.str []), (.int .i64 (.ofNat 0)), .nilsl] [(0, 4, t39)]) H fun t40 H =>
  pO (someAgg (aFill [(.str []), (.str []), (.int .i64 (.ofNat 0)), .nilsl] [(0, 1, t36), (2, 1, t3), (3, 1, t40)])) H fun t41 H =>
  stK 4 H t6 t41 fun _ H =>
  pC call 43 [t0, (.str [59])] H fun _ H =>
  ldK (.some 4) H t6 fun t44 H =>
  stK 4 H t2 t44 fun _ H =>
  ob (allM (fun o => o) [aLoad (.some 4) H t2]) fun vs => some (resV vs, H))) (pAdd t5 (.int .i64 (.ofNat 1)) H fun t28 H =>
  q1 t0 t2 t3 t4 t28 H)) (S122_7 call t0 t2 t3 H)) n
noncomputable def S122_9 (call : CallFn) (t0 : AV) (H : AHeap) : R :=
  pNew [(.str []), (.str []), (.int .i64 (.ofNat 0)), .nilsl] H fun t2 H =>
  pC call 40 [t0] H fun t22 H =>
  pO (aFld 2 .none t22) H fun t23 H =>
  pO (someAgg (aFill [(.str []), (.str [])] [(0, 1, (.str [112, 114, 105, 110, 116])), (1, 1, (.str [99, 108, 111, 115, 101]))])) H fun t24 H =>
  pNew [(.str []), (.str [])] H fun t4 H =>
  stK 2 H t4 t24 fun _ H =>
  S122_8 call 1000000 t0 t2 t23 t4 (.int .i64 (.ofNat 0)) H
noncomputable def S122 : Ff := ⟨fun call l H => argA1 (fun t0 => S122_9 call t0 H) l⟩
/- strings.CutPrefix -/
noncomputable def S123_0 (call : CallFn) (t0 t1 : AV) (H : AHeap) : R :=
  pC call 174 [t0, t1] H fun t8 H =>
  pExt t8 0 H fun t9 H =>
  pExt t8 1 H fun t10 H =>
  some (.tup [t9, t10], H)
noncomputable def S123 : Ff := ⟨fun call l H => argA2 (fun t0 t1 => S123_0 call t0 t1 H) l⟩
/- slices.Contains[[]string,string] -/
noncomputable def S124_0 (call : CallFn) (t0 t1 : AV) (H : AHeap) : R :=
  pC call 175 [t0, t1] H fun t7 H =>
  pGeq t7 (.int .i64 (.ofNat 0)) H fun t8 H =>
  some (t8, H)
noncomputable def S124 : Ff := ⟨fun call l H => argA2 (fun t0 t1 => S124_0 call t0 t1 H) l⟩
/- (*gantline/check.checker).expr -/
noncomputable def S126_0 (call : CallFn) (t3 t4 t5 t34 t40 t45 : AV) (H : AHeap) : R :=
  pPick t40 t45 (.bool false) H fun t46 H =>
  ldK (.some 4) H t3 fun t47 H =>
  pC call 21 [t34, t46, t47] H fun _ H =>
  pIa 4 t5 (.int .i64 (.ofNat 0)) H fun t50 H =>
  ldK (.some 4) H t50 fun t51 H =>
  stK 4 H t4 t51 fun _ H =>
  ob (allM (fun o => o) [aLoad (.some 4) H t4]) fun vs => some (resV vs, H)
noncomputable def S126_1 (call : CallFn) (t3 t4 t5 t34 t40 t44 : AV) (H : AHeap) : R :=
  guardA t40 true (pNeq t44 (.str [98, 111, 111, 108]) H fun t45 H =>
  S126_0 call t3 t4 t5 t34 t40 t45 H) (S126_0 call t3 t4 t5 t34 t40 U H)
noncomputable def S126_2 (call : CallFn) (t3 t4 t5 t34 t40 t43 : AV) (H : AHeap) : R :=
  guardA t40 true (ldK .none H t43 fun t44 H =>
  S126_1 call t3 t4 t5 t34 t40 t44 H) (S126_1 call t3 t4 t5 t34 t40 U H)
noncomputable def S126_3 (call : CallFn) (t3 t4 t5 t34 t40 t42 : AV) (H : AHeap) : R :=
  guardA t40 true (pFa 0 t42 H fun t43 H =>
  S126_2 call t3 t4 t5 t34 t40 t43 H) (S126_2 call t3 t4 t5 t34 t40 U H)
noncomputable def S126_4 (call : CallFn) (t3 t4 t5 t34 t40 t41 : AV) (H : AHeap) : R :=
  guardA t40 true (pIa 4 t41 (.int .i64 (.ofNat 0)) H fun t42 H =>
  S126_3 call t3 t4 t5 t34 t40 t42 H) (S126_3 call t3 t4 t5 t34 t40 U H)
noncomputable def S126_5 (call : CallFn) (t3 t4 t7 t74 t83 t86 t88 : AV) (H : AHeap) : R :=
  andR (andB (ckV (aLoad (.some 4) H t3) t88) true) (
  pPick t83 t86 (.bool false) H fun t87 H =>
  pC call 21 [t74, t87, t88] H fun _ H =>
  ldK (.some 4) H t7 fun t90 H =>
  stK 4 H t4 t90 fun _ H =>
  ob (allM (fun o => o) [aLoad (.some 4) H t4]) fun vs => some (resV vs, H))
noncomputable def S126_6 (call : CallFn) (t3 t4 t7 t74 t83 t84 t85 : AV) (H : AHeap) : R :=
  ldK (.some 4) H t3 fun t88 H =>
  guardA t83 true (pC call 127 [t84, t85] H fun t86 H =>
  S126_5 call t3 t4 t7 t74 t83 t86 t88 H) (S126_5 call t3 t4 t7 t74 t83 U t88 H)
noncomputable def S126_7 (call : CallFn) (t3 t4 t7 t74 t83 t84 : AV) (H : AHeap) : R :=
  guardA t83 true (ldK (.some 4) H t7 fun t85 H =>
  S126_6 call t3 t4 t7 t74 t83 t84 t85 H) (S126_6 call t3 t4 t7 t74 t83 t84 U H)
noncomputable def S126_8 (call : CallFn) (t3 t4 t6 t7 t74 t78 t81 : AV) (H : AHeap) : R :=
  pPick t78 (.bool true) t81 H fun t82 H =>
  guardA t82 true (ldK (.some 4) H t6 fun t84 H =>
  S126_7 call t3 t4 t7 t74 t82 t84 H) (S126_7 call t3 t4 t7 t74 t82 U H)
noncomputable def S126_9 (call : CallFn) (t3 t4 t6 t7 t74 t78 t80 : AV) (H : AHeap) : R :=
  guardA t78 false (pEql t80 (.str [33]) H fun t81 H =>
  S126_8 call t3 t4 t6 t7 t74 t78 t81 H) (S126_8 call t3 t4 t6 t7 t74 t78 U H)
noncomputable def S126_10 (call : CallFn) (t3 t4 t6 t7 t74 t78 t79 : AV) (H : AHeap) : R :=
  guardA t78 false (ldK .none H t79 fun t80 H =>
  S126_9 call t3 t4 t6 t7 t74 t78 t80 H) (S126_9 call t3 t4 t6 t7 t74 t78 U H)
noncomputable def S126_11 (call : CallFn) (t0 t3 t4 t6 t7 : AV) (H : AHeap) : R :=
  pFa 1 t3 H fun t75 H =>
  ldK .none H t75 fun t76 H =>
  pEql t76 (.str [45]) H fun t77 H =>
  guardA t77 false (pFa 1 t3 H fun t79 H =>
  S126_10 call t3 t4 t6 t7 t0 t77 t79 H) (S126_10 call t3 t4 t6 t7 t0 t77 U H)
noncomputable def S126_12 (call : CallFn) (t0 t3 t4 t5 t13 t159 t165 t170 : AV) (H : AHeap) : R :=
  pPick t165 (.bool true) t170 H fun t171 H =>
  ldK (.some 4) H t3 fun t172 H =>
  pC call 21 [t159, t171, t172] H fun _ H =>
  pFa 0 t13 H fun t175 H =>
  ldK .none H t175 fun t176 H =>
  pEql t176 (.str [105, 110, 116]) H fun t177 H =>
  pIa 4 t5 (.int .i64 (.ofNat 1)) H fun t179 H =>
  ldK (.some 4) H t179 fun t180 H =>
  pC call 21 [t0, t177, t180] H fun _ H =>
  pIa 4 t5 (.int .i64 (.ofNat 0)) H fun t183 H =>
  ldK (.some 4) H t183 fun t184 H =>
  stK 4 H t4 t184 fun _ H =>
  ob (allM (fun o => o) [aLoad (.some 4) H t4]) fun vs => some (resV vs, H)
noncomputable def S126_13 (call : CallFn) (t0 t3 t4 t5 t13 t159 t165 t169 : AV) (H : AHeap) : R :=
  guardA t165 false (pEql t169 (.str [99, 104, 97, 110]) H fun t170 H =>
  S126_12 call t0 t3 t4 t5 t13 t159 t165 t170 H) (S126_12 call t0 t3 t4 t5 t13 t159 t165 U H)
noncomputable def S126_14 (call : CallFn) (t0 t3 t4 t5 t13 t159 t165 t168 : AV) (H : AHeap) : R :=
  guardA t165 false (ldK .none H t168 fun t169 H =>
  S126_13 call t0 t3 t4 t5 t13 t159 t165 t169 H) (S126_13 call t0 t3 t4 t5 t13 t159 t165 U H)
noncomputable def S126_15 (call : CallFn) (t0 t3 t4 t5 t13 t159 t165 t167 : AV) (H : AHeap) : R :=
  guardA t165 false (pFa 0 t167 H fun t168 H =>
  S126_14 call t0 t3 t4 t5 t13 t159 t165 t168 H) (S126_14 call t0 t3 t4 t5 t13 t159 t165 U H)
noncomputable def S126_16 (call : CallFn) (t0 t3 t4 t5 t13 t159 t165 t166 : AV) (H : AHeap) : R :=
  guardA t165 false (pIa 4 t166 (.int .i64 (.ofNat 0)) H fun t167 H =>
  S126_15 call t0 t3 t4 t5 t13 t159 t165 t167 H) (S126_15 call t0 t3 t4 t5 t13 t159 t165 U H)
noncomputable def S126_17 (call : CallFn) (t0 t3 t4 t5 t24 t28 : AV) (H : AHeap) : R :=
  onBool t28 (pC call 176 [(.str [98, 111, 111, 108])] H fun t31 H =>
  stK 4 H t4 t31 fun _ H =>
  ob (allM (fun o => o) [aLoad (.some 4) H t4]) fun vs => some (resV vs, H)) (pEql t24 (.str [110, 105, 108]) H fun t33 H =>
  onBool t33 (pIa 4 t5 (.int .i64 (.ofNat 0)) H fun t36 H =>
  pFa 0 t36 H fun t37 H =>
  ldK .none H t37 fun t38 H =>
  pNeq t38 (.str [105, 110, 116]) H fun t39 H =>
  guardA t39 true (S126_4 call t3 t4 t5 t0 t39 t5 H) (S126_4 call t3 t4 t5 t0 t39 U H)) (pEql t24 (.str [110, 97, 109, 101]) H fun t53 H =>
  onBool t53 (ldK (.some 4) H t3 fun t55 H =>
  pC call 177 [t0, t55] H fun t56 H =>
  stK 4 H t4 t56 fun _ H =>
  ob (allM (fun o => o) [aLoad (.some 4) H t4]) fun vs => some (resV vs, H)) (pEql t24 (.str [98, 105, 110, 97, 114, 121]) H fun t58 H =>
  onBool t58 (ldK (.some 4) H t3 fun t60 H =>
  pC call 178 [t0, t60] H fun t61 H =>
  stK 4 H t4 t61 fun _ H =>
  ob (allM (fun o => o) [aLoad (.some 4) H t4]) fun vs => some (resV vs, H)) (pEql t24 (.str [117, 110, 97, 114, 121]) H fun t63 H =>
  onBool t63 (pIa 4 t5 (.int .i64 (.ofNat 0)) H fun t66 H =>
  ldK (.some 4) H t66 fun t67 H =>
  pC call 126 [t0, t67] H fun t68 H =>
  pNew [(.str []), (.str []), (.int .i64 (.ofNat 0)), .nilsl] H fun t6 H =>
  stK 4 H t6 t68 fun _ H =>
  pC call 176 [(.str [105, 110, 116])] H fun t69 H =>
  pNew [(.str []), (.str []), (.int .i64 (.ofNat 0)), .nilsl] H fun t7 H =>
  stK 4 H t7 t69 fun _ H =>
  pFa 1 t3 H fun t70 H =>
  ldK .none H t70 fun t71 H =>
  pEql t71 (.str [33]) H fun t72 H =>
  onBool t72 (pC call 176 [(.str [98, 111, 111, 108])] H fun t73 H =>
  stK 4 H t7 t73 fun _ H =>
  S126_11 call t0 t3 t4 t6 t7 H) (S126_11 call t0 t3 t4 t6 t7 H)) (pEql t24 (.str [99, 97, 108, 108]) H fun t92 H =>
  onBool t92 (ldK (.some 4) H t3 fun t94 H =>
  pC call 131 [t0, t94] H fun t95 H =>
  pNew [(.str []), (.str []), (.int .i64 (.ofNat 0)), .nilsl] H fun t8 H =>
  stK 4 H t8 t95 fun _ H =>
  pFa 0 t8 H fun t97 H =>
  ldK .none H t97 fun t98 H =>
  pNeq t98 (.str [110, 111, 110, 101]) H fun t99 H =>
  ldK (.some 4) H t3 fun t100 H =>
  pC call 21 [t0, t99, t100] H fun _ H =>
  ldK (.some 4) H t8 fun t102 H =>
  stK 4 H t4 t102 fun _ H =>
  ob (allM (fun o => o) [aLoad (.some 4) H t4]) fun vs => some (resV vs, H)) (pEql t24 (.str [105, 110, 100, 101, 120]) H fun t104 H =>
  onBool t104 (pIa 4 t5 (.int .i64 (.ofNat 0)) H fun t107 H =>
  ldK (.some 4) H t107 fun t108 H =>
  pIa 4 t5 (.int .i64 (.ofNat 1)) H fun t112 H =>
  ldK (.some 4) H t112 fun t113 H =>
  pNew [(.str []), (.str []), (.int .i64 (.ofNat 0)), .nilsl] H fun t9 H =>
  pNew [(.str []), (.str []), (.int .i64 (.ofNat 0)), .nilsl] H fun t10 H =>
  pC call 126 [t0, t108] H fun t109 H =>
  andR (andB (ckV (aLoad (.some 4) H t112) t113) true) (
  pC call 126 [t0, t113] H fun t114 H =>
  stK 4 H t9 t109 fun _ H =>
  stK 4 H t10 t114 fun _ H =>
  pFa 0 t9 H fun t116 H =>
  ldK .none H t116 fun t117 H =>
  pEql t117 (.str [108, 105, 115, 116]) H fun t118 H =>
  ldK (.some 4) H t3 fun t119 H =>
  pC call 21 [t0, t118, t119] H fun _ H =>
  pFa 0 t10 H fun t122 H =>
  ldK .none H t122 fun t123 H =>
  pEql t123 (.str [105, 110, 116]) H fun t124 H =>
  pIa 4 t5 (.int .i64 (.ofNat 1)) H fun t126 H =>
  ldK (.some 4) H t126 fun t127 H =>
  pC call 21 [t0, t124, t127] H fun _ H =>
  ldK (.some 4) H t9 fun t129 H =>
  pC call 179 [t129] H fun t130 H =>
  stK 4 H t4 t130 fun _ H =>
  ob (allM (fun o => o) [aLoad (.some 4) H t4]) fun vs => some (resV vs, H))) (pEql t24 (.str [100, 111, 116]) H fun t132 H =>
  onBool t132 (ldK (.some 4) H t3 fun t134 H =>
  pC call 180 [t0, t134] H fun t135 H =>
  stK 4 H t4 t135 fun _ H =>
  ob (allM (fun o => o) [aLoad (.some 4) H t4]) fun vs => some (resV vs, H)) (pEql t24 (.str [110, 101, 119]) H fun t137 H =>
  onBool t137 (pFa 1 t3 H fun t140 H =>
  ldK .none H t140 fun t141 H =>
  pC call 20 [t0, (.str [115, 116, 114, 117, 99, 116]), t141] H fun t142 H =>
  pExt t142 0 H fun t143 H =>
  pExt t142 1 H fun t144 H =>
  pNew [(.str []), (.str []), (.int .i64 (.ofNat 0)), .nilsl] H fun t11 H =>
  stK 4 H t11 t143 fun _ H =>
  ldK (.some 4) H t3 fun t147 H =>
  pC call 21 [t0, t144, t147] H fun _ H =>
  pFa 1 t3 H fun t149 H =>
  ldK .none H t149 fun t150 H =>
  pO (someAgg (aFill [(.str []), (.str []), (.int .i64 (.ofNat 0)), .nilsl] [(0, 1, (.str [110, 97, 109, 101, 100])), (1, 1, t150)])) H fun t151 H =>
  stK 4 H t4 t151 fun _ H =>
  ob (allM (fun o => o) [aLoad (.some 4) H t4]) fun vs => some (resV vs, H)) (pEql t24 (.str [109, 97, 107, 101]) H fun t153 H =>
  onBool t153 (pIa 4 t5 (.int .i64 (.ofNat 1)) H fun t156 H =>
  ldK (.some 4) H t156 fun t157 H =>
  pC call 126 [t0, t157] H fun t158 H =>
  pNew [(.str []), (.str []), (.int .i64 (.ofNat 0)), .nilsl] H fun t13 H =>
  stK 4 H t13 t158 fun _ H =>
  pIa 4 t5 (.int .i64 (.ofNat 0)) H fun t161 H =>
  pFa 0 t161 H fun t162 H =>
  ldK .none H t162 fun t163 H =>
  pEql t163 (.str [108, 105, 115, 116]) H fun t164 H =>
  guardA t164 false (S126_16 call t0 t3 t4 t5 t13 t0 t164 t5 H) (S126_16 call t0 t3 t4 t5 t13 t0 t164 U H)) (pEql t24 (.str [108, 101, 110]) H fun t186 H =>
  onBool t186 (pIa 4 t5 (.int .i64 (.ofNat 0)) H fun t189 H =>
  ldK (.some 4) H t189 fun t190 H =>
  pC call 126 [t0, t190] H fun t191 H =>
  pNew [(.str []), (.str []), (.int .i64 (.ofNat 0)), .nilsl] H fun t14 H =>
  stK 4 H t14 t191 fun _ H =>
  pFa 0 t14 H fun t193 H =>
  ldK .none H t193 fun t194 H =>
  pEql t194 (.str [108, 105, 115, 116]) H fun t195 H =>
  ldK (.some 4) H t3 fun t196 H =>
  pC call 21 [t0, t195, t196] H fun _ H =>
  pC call 176 [(.str [105, 110, 116])] H fun t198 H =>
  stK 4 H t4 t198 fun _ H =>
  ob (allM (fun o => o) [aLoad (.some 4) H t4]) fun vs => some (resV vs, H)) (pEql t24 (.str [114, 101, 99, 118]) H fun t200 H =>
  onBool t200 (pIa 4 t5 (.int .i64 (.ofNat 0)) H fun t203 H =>
  ldK (.some 4) H t203 fun t204 H =>
  pC call 126 [t0, t204] H fun t205 H =>
  pNew [(.str []), (.str []), (.int .i64 (.ofNat 0)), .nilsl] H fun t15 H =>
  stK 4 H t15 t205 fun _ H =>
  pFa 0 t15 H fun t207 H =>
  ldK .none H t207 fun t208 H =>
  pEql t208 (.str [99, 104, 97, 110]) H fun t209 H =>
  ldK (.some 4) H t3 fun t210 H =>
  pC call 21 [t0, t209, t210] H fun _ H =>
  ldK (.some 4) H t15 fun t212 H =>
  pC call 179 [t212] H fun t213 H =>
  stK 4 H t4 t213 fun _ H =>
  ob (allM (fun o => o) [aLoad (.some 4) H t4]) fun vs => some (resV vs, H)) (ldK (.some 4) H t3 fun t215 H =>
  pC call 181 [t0, t215] H fun t216 H =>
  stK 4 H t4 t216 fun _ H =>
  ob (allM (fun o => o) [aLoad (.some 4) H t4]) fun vs => some (resV vs, H)))))))))))))
noncomputable def S126_18 (call : CallFn) (t0 t1 : AV) (H : AHeap) : R :=
  pBox t1 H fun t3 H =>
  pNew [(.str []), (.str []), (.int .i64 (.ofNat 0)), .nilsl] H fun t4 H =>
  pO (aNil t0) H fun t17 H =>
  pFa 4 t17 H fun t18 H =>
  ldK .none H t18 fun t19 H =>
  onBool t19 (pO (someAgg (aFill [(.str []), (.str []), (.int .i64 (.ofNat 0)), .nilsl] [])) H fun t20 H =>
  stK 4 H t4 t20 fun _ H =>
  ob (allM (fun o => o) [aLoad (.some 4) H t4]) fun vs => some (resV vs, H)) (pFa 3 t3 H fun t21 H =>
  ldK .none H t21 fun t22 H =>
  pFa 0 t3 H fun t23 H =>
  ldK .none H t23 fun t24 H =>
  pEql t24 (.str [110, 117, 109, 98, 101, 114]) H fun t26 H =>
  onBool t26 (pC call 176 [(.str [105, 110, 116])] H fun t27 H =>
  stK 4 H t4 t27 fun _ H =>
  ob (allM (fun o => o) [aLoad (.some 4) H t4]) fun vs => some (resV vs, H)) (pEql t24 (.str [116, 114, 117, 101]) H fun t29 H =>
  onBool t29 (S126_17 call t0 t3 t4 t22 t24 t29 H) (pEql t24 (.str [102, 97, 108, 115, 101]) H fun t30 H =>
  S126_17 call t0 t3 t4 t22 t24 t30 H)))
noncomputable def S126 : Ff := ⟨fun call l H => argA2 (fun t0 t1 => S126_18 call t0 t1 H) l⟩
/- (*gantline/check.checker).is -/
noncomputable def S130_0 (call : CallFn) (t0 t1 t2 : AV) (H : AHeap) : R :=
  pBox t1 H fun t4 H =>
  pNew [(.str []), (.str []), (.int .i64 (.ofNat 0)), .nilsl] H fun t6 H =>
  ldK (.some 4) H t4 fun t9 H =>
  pC call 126 [t0, t9] H fun t10 H =>
  pNew [(.str []), (.str []), (.int .i64 (.ofNat 0)), .nilsl] H fun t7 H =>
  stK 4 H t7 t10 fun _ H =>
  pFa 0 t7 H fun t12 H =>
  ldK .none H t12 fun t13 H =>
  pEql t13 t2 H fun t15 H =>
  ldK (.some 4) H t4 fun t16 H =>
  pC call 21 [t0, t15, t16] H fun _ H =>
  ldK (.some 4) H t7 fun t18 H =>
  stK 4 H t6 t18 fun _ H =>
  ob (allM (fun o => o) [aLoad (.some 4) H t6]) fun vs => some (resV vs, H)
noncomputable def S130 : Ff := ⟨fun call l H => argA3 (fun t0 t1 t2 => S130_0 call t0 t1 t2 H) l⟩
/- (*gantline/lower.maker).constant -/
noncomputable def S135_0 (call : CallFn) (t0 t1 : AV) (H : AHeap) : R :=
  pO (aNil t0) H fun t7 H =>
  pFa 4 t7 H fun t8 H =>
  pFa 2 t8 H fun t9 H =>
  ldK .none H t9 fun t10 H =>
  pC call 186 [t10, t1] H fun t12 H =>
  pLss t12 (.int .i64 (.ofNat 0)) H fun t14 H =>
  onBool t14 (pO (aNil t0) H fun t16 H =>
  pFa 4 t16 H fun t17 H =>
  pFa 2 t17 H fun t18 H =>
  ldK .none H t18 fun t19 H =>
  pO (aLen .sl H t19) H fun t20 H =>
  pO (aNil t0) H fun t23 H =>
  pFa 4 t23 H fun t24 H =>
  pFa 2 t24 H fun t25 H =>
  ldK .none H t25 fun t26 H =>
  pN (aBsl 1 1 [(.int .i64 (.ofNat 0))] [(0, 1, t1)]) H fun t28 H =>
  pW (aApp 1 8 H t26 t28) fun t29 H =>
  pO (aNil t0) H fun t30 H =>
  pFa 4 t30 H fun t31 H =>
  pFa 2 t31 H fun t32 H =>
  stK 1 H t32 t29 fun _ H =>
  some (t20, H)) (some (t12, H))
noncomputable def S135 : Ff := ⟨fun call l H => argA2 (fun t0 t1 => S135_0 call t0 t1 H) l⟩
/- gantline/lower.number -/
noncomputable def S136_0 (call : CallFn) (t0 : AV) (H : AHeap) : R :=
  pC call 187 [t0, (.int .i64 (.ofNat 10)), (.int .i64 (.ofNat 64))] H fun t7 H =>
  pExt t7 0 H fun t8 H =>
  pExt t7 1 H fun _ H =>
  some (t8, H)
noncomputable def S136 : Ff := ⟨fun call l H => argA1 (fun t0 => S136_0 call t0 H) l⟩
/- (*gantline/lower.builder).typ -/
noncomputable def S149_0 (call : CallFn) (t0 t3 t4 t9 t93 : AV) (H : AHeap) : R :=
  onBool t93 (pFa 3 t3 H fun t98 H =>
  ldK .none H t98 fun t99 H =>
  pIa 4 t99 (.int .i64 (.ofNat 0)) H fun t100 H =>
  ldK (.some 4) H t100 fun t101 H =>
  pC call 149 [t0, t101] H fun t102 H =>
  pO (aFld 3 .none t102) H fun t103 H =>
  pIa 4 t103 (.int .i64 (.ofNat 0)) H fun t104 H =>
  ldK (.some 4) H t104 fun t105 H =>
  stK 4 H t4 t105 fun _ H =>
  ob (allM (fun o => o) [aLoad (.some 4) H t4]) fun vs => some (resV vs, H)) (pEql t9 (.str [100, 111, 116]) H fun t107 H =>
  onBool t107 (pO (aNil t0) H fun t109 H =>
  pFa 0 t109 H fun t110 H =>
  ldK .none H t110 fun t111 H =>
  pO (aNil t111) H fun t112 H =>
  pFa 0 t112 H fun t113 H =>
  ldK (.some 4) H t113 fun t114 H =>
  pFa 3 t3 H fun t116 H =>
  ldK .none H t116 fun t117 H =>
  pIa 4 t117 (.int .i64 (.ofNat 0)) H fun t118 H =>
  ldK (.some 4) H t118 fun t119 H =>
  ldK (.some 4) H t3 fun t124 H =>
  pC call 149 [t0, t119] H fun t120 H =>
  andR (andB (ckV (aLoad .none H t110) t111) (andB (ckV (aLoad (.some 4) H t113) t114) (andB (ckV (aLoad (.some 4) H t3) t124) true))) (
  pO (aFld 1 .none t120) H fun t121 H =>
  pC call 190 [t114, t121] H fun t122 H =>
  andR (andB (ckV (aLoad (.some 4) H t3) t124) true) (
  pC call 140 [t0, t124] H fun t125 H =>
  pIa 4 t122 t125 H fun t126 H =>
  pFa 3 t126 H fun t127 H =>
  ldK .none H t127 fun t128 H =>
  pIa 4 t128 (.int .i64 (.ofNat 0)) H fun t129 H =>
  ldK (.some 4) H t129 fun t130 H =>
  stK 4 H t4 t130 fun _ H =>
  ob (allM (fun o => o) [aLoad (.some 4) H t4]) fun vs => some (resV vs, H)))) (ldK (.some 4) H t3 fun t131 H =>
  pC call 197 [t131] H fun t132 H =>
  stK 4 H t4 t132 fun _ H =>
  ob (allM (fun o => o) [aLoad (.some 4) H t4]) fun vs => some (resV vs, H)))
noncomputable def S149_1 (call : CallFn) (t0 t3 t4 t9 t18 : AV) (H : AHeap) : R :=
  onBool t18 (pFa 3 t3 H fun t21 H =>
  ldK .none H t21 fun t22 H =>
  pIa 4 t22 (.int .i64 (.ofNat 0)) H fun t23 H =>
  ldK (.some 4) H t23 fun t24 H =>
  stK 4 H t4 t24 fun _ H =>
  ob (allM (fun o => o) [aLoad (.some 4) H t4]) fun vs => some (resV vs, H)) (pEql t9 (.str [110, 101, 119]) H fun t26 H =>
  onBool t26 (pFa 1 t3 H fun t27 H =>
  ldK .none H t27 fun t28 H =>
  pO (someAgg (aFill [(.str []), (.str []), (.int .i64 (.ofNat 0)), .nilsl] [(0, 1, (.str [110, 97, 109, 101, 100])), (1, 1, t28)])) H fun t29 H =>
  stK 4 H t4 t29 fun _ H =>
  ob (allM (fun o => o) [aLoad (.some 4) H t4]) fun vs => some (resV vs, H)) (pEql t9 (.str [110, 97, 109, 101]) H fun t31 H =>
  onBool t31 (pFa 1 t3 H fun t34 H =>
  ldK .none H t34 fun t35 H =>
  pC call 144 [t0, t35] H fun t36 H =>
  pExt t36 0 H fun t37 H =>
  pExt t36 1 H fun t38 H =>
  pNew [(.str []), (.str []), (.str []), (.int .i64 (.ofNat 0)), .nilsl, (.int .i64 (.ofNat 0))] H fun t5 H =>
  stK 6 H t5 t37 fun _ H =>
  onBool t38 (pFa 1 t5 H fun t40 H =>
  ldK (.some 4) H t40 fun t41 H =>
  stK 4 H t4 t41 fun _ H =>
  ob (allM (fun o => o) [aLoad (.some 4) H t4]) fun vs => some (resV vs, H)) (pO (aNil t0) H fun t43 H =>
  pFa 0 t43 H fun t44 H =>
  ldK .none H t44 fun t45 H =>
  pFa 1 t3 H fun t46 H =>
  ldK .none H t46 fun t47 H =>
  pC call 145 [t45, (.str [103, 108, 111, 98, 97, 108]), t47] H fun t48 H =>
  pGeq t48 (.int .i64 (.ofNat 0)) H fun t50 H =>
  onBool t50 (pO (aNil t0) H fun t52 H =>
  pFa 0 t52 H fun t53 H =>
  ldK .none H t53 fun t54 H =>
  pC call 12 [t54, (.str [103, 108, 111, 98, 97, 108])] H fun t55 H =>
  pIa 4 t55 t48 H fun t57 H =>
  pFa 3 t57 H fun t58 H =>
  ldK .none H t58 fun t59 H =>
  pIa 4 t59 (.int .i64 (.ofNat 0)) H fun t60 H =>
  ldK (.some 4) H t60 fun t61 H =>
  stK 4 H t4 t61 fun _ H =>
  ob (allM (fun o => o) [aLoad (.some 4) H t4]) fun vs => some (resV vs, H)) (pO (aNil t0) H fun t63 H =>
  pFa 0 t63 H fun t64 H =>
  ldK .none H t64 fun t65 H =>
  pO (aNil t0) H fun t68 H =>
  pFa 0 t68 H fun t69 H =>
  ldK .none H t69 fun t70 H =>
  pFa 1 t3 H fun t71 H =>
  ldK .none H t71 fun t72 H =>
  pC call 12 [t65, (.str [102, 117, 110, 99])] H fun t66 H =>
  andR (andB (ckV (aLoad .none H t69) t70) (andB (ckV (aLoad .none H t71) t72) true)) (
  pC call 145 [t70, (.str [102, 117, 110, 99]), t72] H fun t73 H =>
  pIa 4 t66 t73 H fun t74 H =>
  ldK (.some 4) H t74 fun t75 H =>
  pC call 197 [t75] H fun t76 H =>
  stK 4 H t4 t76 fun _ H =>
  ob (allM (fun o => o) [aLoad (.some 4) H t4]) fun vs => some (resV vs, H))))) (pEql t9 (.str [117, 110, 97, 114, 121]) H fun t78 H =>
  onBool t78 (pFa 3 t3 H fun t80 H =>
  ldK .none H t80 fun t81 H =>
  pIa 4 t81 (.int .i64 (.ofNat 0)) H fun t82 H =>
  ldK (.some 4) H t82 fun t83 H =>
  pC call 149 [t0, t83] H fun t84 H =>
  stK 4 H t4 t84 fun _ H =>
  ob (allM (fun o => o) [aLoad (.some 4) H t4]) fun vs => some (resV vs, H)) (pEql t9 (.str [98, 105, 110, 97, 114, 121]) H fun t86 H =>
  onBool t86 (pN (aBsl 1 10 [(.str [])] [(0, 1, (.str [43])), (1, 1, (.str [45])), (2, 1, (.str [42])), (3, 1, (.str [47])), (4, 1, (.str [37])), (5, 1, (.str [38])), (6, 1, (.str [124])), (7, 1, (.str [94])), (8, 1, (.str [60, 60])), (9, 1, (.str [62, 62]))]) H fun t87 H =>
  pFa 1 t3 H fun t88 H =>
  ldK .none H t88 fun t89 H =>
  pC call 124 [t87, t89] H fun t90 H =>
  onBool t90 (pO (someAgg (aFill [(.str []), (.str []), (.int .i64 (.ofNat 0)), .nilsl] [(0, 1, (.str [105, 110, 116]))])) H fun t91 H =>
  stK 4 H t4 t91 fun _ H =>
  ob (allM (fun o => o) [aLoad (.some 4) H t4]) fun vs => some (resV vs, H)) (pO (someAgg (aFill [(.str []), (.str []), (.int .i64 (.ofNat 0)), .nilsl] [(0, 1, (.str [98, 111, 111, 108]))])) H fun t92 H =>
  stK 4 H t4 t92 fun _ H =>
  ob (allM (fun o => o) [aLoad (.some 4) H t4]) fun vs => some (resV vs, H))) (pEql t9 (.str [99, 97, 108, 108]) H fun t94 H =>
  onBool t94 (S149_0 call t0 t3 t4 t9 t94 H) (pEql t9 (.str [105, 110, 100, 101, 120]) H fun t95 H =>
  onBool t95 (S149_0 call t0 t3 t4 t9 t95 H) (pEql t9 (.str [114, 101, 99, 118]) H fun t96 H =>
  S149_0 call t0 t3 t4 t9 t96 H)))))))
noncomputable def S149_2 (call : CallFn) (t0 t3 t4 t9 t14 : AV) (H : AHeap) : R :=
  onBool t14 (pO (someAgg (aFill [(.str []), (.str []), (.int .i64 (.ofNat 0)), .nilsl] [(0, 1, (.str [98, 111, 111, 108]))])) H fun t17 H =>
  stK 4 H t4 t17 fun _ H =>
  ob (allM (fun o => o) [aLoad (.some 4) H t4]) fun vs => some (resV vs, H)) (pEql t9 (.str [110, 105, 108]) H fun t19 H =>
  onBool t19 (S149_1 call t0 t3 t4 t9 t19 H) (pEql t9 (.str [109, 97, 107, 101]) H fun t20 H =>
  S149_1 call t0 t3 t4 t9 t20 H))
noncomputable def S149_3 (call : CallFn) (t0 t3 t4 t9 t10 : AV) (H : AHeap) : R :=
  onBool t10 (pO (someAgg (aFill [(.str []), (.str []), (.int .i64 (.ofNat 0)), .nilsl] [(0, 1, (.str [105, 110, 116]))])) H fun t13 H =>
  stK 4 H t4 t13 fun _ H =>
  ob (allM (fun o => o) [aLoad (.some 4) H t4]) fun vs => some (resV vs, H)) (pEql t9 (.str [116, 114, 117, 101]) H fun t15 H =>
  onBool t15 (S149_2 call t0 t3 t4 t9 t15 H) (pEql t9 (.str [102, 97, 108, 115, 101]) H fun t16 H =>
  S149_2 call t0 t3 t4 t9 t16 H))
noncomputable def S149_4 (call : CallFn) (t0 t1 : AV) (H : AHeap) : R :=
  pBox t1 H fun t3 H =>
  pNew [(.str []), (.str []), (.int .i64 (.ofNat 0)), .nilsl] H fun t4 H =>
  pFa 0 t3 H fun t8 H =>
  ldK .none H t8 fun t9 H =>
  pEql t9 (.str [110, 117, 109, 98, 101, 114]) H fun t11 H =>
  onBool t11 (S149_3 call t0 t3 t4 t9 t11 H) (pEql t9 (.str [108, 101, 110]) H fun t12 H =>
  S149_3 call t0 t3 t4 t9 t12 H)
noncomputable def S149 : Ff := ⟨fun call l H => argA2 (fun t0 t1 => S149_4 call t0 t1 H) l⟩
/- slices.DeleteFunc[[]int,int] -/
noncomputable def S152_0 (_ : CallFn) (t0 t5 : AV) (H : AHeap) : R :=
  pO (aSlice 1 H t0 (.some t5) .none .none) H fun t38 H =>
  pW (unitW (aClearS [(.int .i64 (.ofNat 0))] H t38)) fun _ H =>
  pO (aSlice 1 H t0 .none (.some t5) .none) H fun t41 H =>
  some (t41, H)
noncomputable def S152_2 (_ : CallFn) (q0 : AV → AV → AV → AV → AHeap → R) (t0 t1 t5 t6 : AV) (H : AHeap) : R :=
  pAdd t6 (.int .i64 (.ofNat 1)) H fun t21 H =>
  q0 t0 t1 t5 t21 H
noncomputable def S152_1 (call : CallFn) (n : Nat) : AV → AV → AV → AV → AHeap → R :=
  Nat.rec (motive := fun _ => AV → AV → AV → AV → AHeap → R) (fun _ _ _ _ _ => none) (fun _ q0 t0 t1 t5 t6 H => pO (aLen .sl H t0) H fun t18 H =>
  pLss t6 t18 H fun t19 H =>
  onBool t19 (pIa 1 t0 t6 H fun t24 H =>
  ldK .none H t24 fun t25 H =>
  pV call t1 [t25] H fun t28 H =>
  pO (aUn .not t28) H fun t29 H =>
  onBool t29 (pIa 1 t0 t5 H fun t33 H =>
  stK 1 H t33 t25 fun _ H =>
  pAdd t5 (.int .i64 (.ofNat 1)) H fun t35 H =>
  S152_2 call q0 t0 t1 t35 t6 H) (S152_2 call q0 t0 t1 t5 t6 H)) (S152_0 call t0 t5 H)) n
noncomputable def S152_3 (call : CallFn) (t0 t1 : AV) (H : AHeap) : R :=
  pC call 161 [t0, t1] H fun t10 H =>
  pEql t10 (.int .i64 (.negSucc 0)) H fun t12 H =>
  onBool t12 (some (t0, H)) (pAdd t10 (.int .i64 (.ofNat 1)) H fun t15 H =>
  S152_1 call 1000000 t0 t1 t10 t15 H)
noncomputable def S152 : Ff := ⟨fun call l H => argA2 (fun t0 t1 => S152_3 call t0 t1 H) l⟩
/- gantline/live.Follows$1 -/
noncomputable def S153_0 (_ : CallFn) (t6 t11 : AV) (H : AHeap) : R :=
  pPick t6 (.bool true) t11 H fun t12 H =>
  some (t12, H)
noncomputable def S153_1 (call : CallFn) (t0 t1 : AV) (H : AHeap) : R :=
  pLss t0 (.int .i64 (.ofNat 0)) H fun t5 H =>
  guardA t5 false (pFa 5 t1 H fun t8 H =>
  ldK .none H t8 fun t9 H =>
  pO (aLen .sl H t9) H fun t10 H =>
  pGeq t0 t10 H fun t11 H =>
  S153_0 call t5 t11 H) (S153_0 call t5 U H)
noncomputable def S153 : Ff := ⟨fun call l H => argA2 (fun t0 t1 => S153_1 call t0 t1 H) l⟩
/- slices.Sort[[]int,int] -/
noncomputable def S154_0 (call : CallFn) (t0 : AV) (H : AHeap) : R :=
  pO (aLen .sl H t0) H fun t4 H =>
  pConv .u64 t4 H fun t8 H =>
  pC call 200 [t8] H fun t9 H =>
  pC call 199 [t0, (.int .i64 (.ofNat 0)), t4, t9] H fun _ H =>
  some (.tup [], H)
noncomputable def S154 : Ff := ⟨fun call l H => argA1 (fun t0 => S154_0 call t0 H) l⟩
/- slices.Compact[[]int,int] -/
noncomputable def S155_1 (_ : CallFn) (q0 : AV → AV → AHeap → R) (t0 t3 : AV) (H : AHeap) : R :=
  pAdd t3 (.int .i64 (.ofNat 1)) H fun t15 H =>
  q0 t0 t15 H
noncomputable def S155_2 (_ : CallFn) (t0 t3 : AV) (H : AHeap) : R :=
  pO (aSlice 1 H t0 (.some t3) .none .none) H fun t56 H =>
  pW (unitW (aClearS [(.int .i64 (.ofNat 0))] H t56)) fun _ H =>
  pO (aSlice 1 H t0 .none (.some t3) .none) H fun t59 H =>
  some (t59, H)
noncomputable def S155_4 (_ : CallFn) (q1 : AV → AV → AV → AV → AHeap → R) (t0 t3 t4 t5 : AV) (H : AHeap) : R :=
  pAdd t5 (.int .i64 (.ofNat 1)) H fun t34 H =>
  q1 t0 t3 t4 t34 H
noncomputable def S155_3 (call : CallFn) (n : Nat) : AV → AV → AV → AV → AHeap → R :=
  Nat.rec (motive := fun _ => AV → AV → AV → AV → AHeap → R) (fun _ _ _ _ _ => none) (fun _ q1 t0 t3 t4 t5 H => pO (aLen .sl H t4) H fun t31 H =>
  pLss t5 t31 H fun t32 H =>
  onBool t32 (pIa 1 t4 t5 H fun t37 H =>
  ldK .none H t37 fun t38 H =>
  pSub t5 (.int .i64 (.ofNat 1)) H fun t41 H =>
  pIa 1 t4 t41 H fun t42 H =>
  ldK .none H t42 fun t43 H =>
  pNeq t38 t43 H fun t44 H =>
  onBool t44 (pIa 1 t4 t5 H fun t49 H =>
  ldK .none H t49 fun t50 H =>
  pIa 1 t0 t3 H fun t51 H =>
  stK 1 H t51 t50 fun _ H =>
  pAdd t3 (.int .i64 (.ofNat 1)) H fun t53 H =>
  S155_4 call q1 t0 t53 t4 t5 H) (S155_4 call q1 t0 t3 t4 t5 H)) (S155_2 call t0 t3 H)) n
noncomputable def S155_0 (call : CallFn) (n : Nat) : AV → AV → AHeap → R :=
  Nat.rec (motive := fun _ => AV → AV → AHeap → R) (fun _ _ _ => none) (fun _ q0 t0 t3 H => pO (aLen .sl H t0) H fun t12 H =>
  pLss t3 t12 H fun t13 H =>
  onBool t13 (pIa 1 t0 t3 H fun t18 H =>
  ldK .none H t18 fun t19 H =>
  pSub t3 (.int .i64 (.ofNat 1)) H fun t22 H =>
  pIa 1 t0 t22 H fun t23 H =>
  ldK .none H t23 fun t24 H =>
  pEql t19 t24 H fun t25 H =>
  onBool t25 (pO (aSlice 1 H t0 (.some t3) .none .none) H fun t28 H =>
  S155_3 call 1000000 t0 t3 t28 (.int .i64 (.ofNat 1)) H) (S155_1 call q0 t0 t3 H)) (some (t0, H))) n
noncomputable def S155_5 (call : CallFn) (t0 : AV) (H : AHeap) : R :=
  pO (aLen .sl H t0) H fun t7 H =>
  pLss t7 (.int .i64 (.ofNat 2)) H fun t8 H =>
  onBool t8 (some (t0, H)) (S155_0 call 1000000 t0 (.int .i64 (.ofNat 1)) H)
noncomputable def S155 : Ff := ⟨fun call l H => argA1 (fun t0 => S155_5 call t0 H) l⟩
/- gantline/live.given -/
noncomputable def S158_0 (call : CallFn) (t0 : AV) (H : AHeap) : R :=
  pC call 152 [t0, (.fn 201 [] [])] H fun t4 H =>
  some (t4, H)
noncomputable def S158 : Ff := ⟨fun call l H => argA1 (fun t0 => S158_0 call t0 H) l⟩
/- slices.IndexFunc[[]int,int] -/
noncomputable def S161_0 (call : CallFn) (n : Nat) : AV → AV → AV → AV → AHeap → R :=
  Nat.rec (motive := fun _ => AV → AV → AV → AV → AHeap → R) (fun _ _ _ _ _ => none) (fun _ q0 t0 t1 t7 t8 H => pLss t8 t7 H fun t9 H =>
  onBool t9 (pIa 1 t0 t8 H fun t14 H =>
  ldK .none H t14 fun t15 H =>
  pV call t1 [t15] H fun t16 H =>
  onBool t16 (some (t8, H)) (pAdd t8 (.int .i64 (.ofNat 1)) H fun t18 H =>
  q0 t0 t1 t7 t18 H)) (some ((.int .i64 (.negSucc 0)), H))) n
noncomputable def S161_1 (call : CallFn) (t0 t1 : AV) (H : AHeap) : R :=
  pO (aLen .sl H t0) H fun t7 H =>
  S161_0 call 1000000 t0 t1 t7 (.int .i64 (.ofNat 0)) H
noncomputable def S161 : Ff := ⟨fun call l H => argA2 (fun t0 t1 => S161_1 call t0 t1 H) l⟩
/- (*gantline/verify.checker).is$1 -/
noncomputable def S162_0 (_ : CallFn) (t0 t1 t2 : AV) (H : AHeap) : R :=
  ldK .none H t1 fun t5 H =>
  pO (aNil t5) H fun t6 H =>
  pFa 6 t6 H fun t7 H =>
  pFa 4 t7 H fun t8 H =>
  ldK .none H t8 fun t9 H =>
  pIa 1 t9 t0 H fun t11 H =>
  ldK .none H t11 fun t12 H =>
  ldK .none H t2 fun t13 H =>
  pO (aEq true .bool t12 t13) H fun t14 H =>
  some (t14, H)
noncomputable def S162 : Ff := ⟨fun call l H => argA3 (fun t0 t1 t2 => S162_0 call t0 t1 t2 H) l⟩
/- (*gantline/gantlineref19.parser).expr -/
noncomputable def S172_0 (call : CallFn) (t0 : AV) (H : AHeap) : R :=
  pNew [(.str []), (.str []), (.int .i64 (.ofNat 0)), .nilsl] H fun t2 H =>
  pC call 208 [t0, (.int .i64 (.ofNat 0))] H fun t4 H =>
  stK 4 H t2 t4 fun _ H =>
  ob (allM (fun o => o) [aLoad (.some 4) H t2]) fun vs => some (resV vs, H)
noncomputable def S172 : Ff := ⟨fun call l H => argA1 (fun t0 => S172_0 call t0 H) l⟩
/- internal/stringslite.CutPrefix -/
noncomputable def S174_0 (call : CallFn) (t0 t1 : AV) (H : AHeap) : R :=
  pC call 209 [t0, t1] H fun t8 H =>
  pO (aUn .not t8) H fun t9 H =>
  onBool t9 (some (.tup [t0, (.bool false)], H)) (pO (aLen .str H t1) H fun t13 H =>
  pO (aSliceS t0 (.some t13) .none) H fun t14 H =>
  some (.tup [t14, (.bool true)], H))
noncomputable def S174 : Ff := ⟨fun call l H => argA2 (fun t0 t1 => S174_0 call t0 t1 H) l⟩
/- slices.Index[[]string,string] -/
noncomputable def S175_0 (_ : CallFn) (n : Nat) : AV → AV → AV → AV → AHeap → R :=
  Nat.rec (motive := fun _ => AV → AV → AV → AV → AHeap → R) (fun _ _ _ _ _ => none) (fun _ q0 t0 t1 t7 t8 H => pLss t8 t7 H fun t9 H =>
  onBool t9 (pIa 1 t0 t8 H fun t14 H =>
  ldK .none H t14 fun t15 H =>
  pEql t1 t15 H fun t16 H =>
  onBool t16 (some (t8, H)) (pAdd t8 (.int .i64 (.ofNat 1)) H fun t18 H =>
  q0 t0 t1 t7 t18 H)) (some ((.int .i64 (.negSucc 0)), H))) n
noncomputable def S175_1 (call : CallFn) (t0 t1 : AV) (H : AHeap) : R :=
  pO (aLen .sl H t0) H fun t7 H =>
  S175_0 call 1000000 t0 t1 t7 (.int .i64 (.ofNat 0)) H
noncomputable def S175 : Ff := ⟨fun call l H => argA2 (fun t0 t1 => S175_1 call t0 t1 H) l⟩
/- gantline/check.plain -/
noncomputable def S176_0 (_ : CallFn) (t0 : AV) (H : AHeap) : R :=
  pNew [(.str []), (.str []), (.int .i64 (.ofNat 0)), .nilsl] H fun t2 H =>
  pO (someAgg (aFill [(.str []), (.str []), (.int .i64 (.ofNat 0)), .nilsl] [(0, 1, t0)])) H fun t4 H =>
  stK 4 H t2 t4 fun _ H =>
  ob (allM (fun o => o) [aLoad (.some 4) H t2]) fun vs => some (resV vs, H)
noncomputable def S176 : Ff := ⟨fun call l H => argA1 (fun t0 => S176_0 call t0 H) l⟩
/- slices.Index[[]int64,int64] -/
noncomputable def S186_0 (_ : CallFn) (n : Nat) : AV → AV → AV → AV → AHeap → R :=
  Nat.rec (motive := fun _ => AV → AV → AV → AV → AHeap → R) (fun _ _ _ _ _ => none) (fun _ q0 t0 t1 t7 t8 H => pLss t8 t7 H fun t9 H =>
  onBool t9 (pIa 1 t0 t8 H fun t14 H =>
  ldK .none H t14 fun t15 H =>
  pEql t1 t15 H fun t16 H =>
  onBool t16 (some (t8, H)) (pAdd t8 (.int .i64 (.ofNat 1)) H fun t18 H =>
  q0 t0 t1 t7 t18 H)) (some ((.int .i64 (.negSucc 0)), H))) n
noncomputable def S186_1 (call : CallFn) (t0 t1 : AV) (H : AHeap) : R :=
  pO (aLen .sl H t0) H fun t7 H =>
  S186_0 call 1000000 t0 t1 t7 (.int .i64 (.ofNat 0)) H
noncomputable def S186 : Ff := ⟨fun call l H => argA2 (fun t0 t1 => S186_1 call t0 t1 H) l⟩
/- strconv.ParseInt -/
noncomputable def S187_0 (call : CallFn) (t0 t1 t2 : AV) (H : AHeap) : R :=
  pC call 212 [t0, t1, t2] H fun t13 H =>
  pExt t13 0 H fun t14 H =>
  pExt t13 1 H fun t15 H =>
  pO (aEq true .ifc t15 .nilif) H fun t17 H =>
  onBool t17 (pC call 213 [(.str [80, 97, 114, 115, 101, 73, 110, 116]), t0, t1, t2, t15] H fun t23 H =>
  some (.tup [t14, t23], H)) (some (.tup [t14, .nilif], H))
noncomputable def S187 : Ff := ⟨fun call l H => argA3 (fun t0 t1 t2 => S187_0 call t0 t1 t2 H) l⟩
/- slices.pdqsortOrdered[int] -/
noncomputable def S199_1 (call : CallFn) (q0 : AV → AV → AV → AV → AV → AV → AHeap → R) (t0 t1 t2 t3 t8 t9 t10 t11 t75 t86 : AV) (H : AHeap) : R :=
  pPick t75 t86 (.bool false) H fun t87 H =>
  onBool t87 (pC call 226 [t0, t1, t2, t11] H fun t92 H =>
  q0 t0 t92 t2 t3 t8 t9 H) (pC call 227 [t0, t1, t2, t11] H fun t99 H =>
  pExt t99 0 H fun t100 H =>
  pExt t99 1 H fun t101 H =>
  pSub t100 t1 H fun t105 H =>
  pSub t2 t100 H fun t108 H =>
  pO (aBin .quo t10 (.int .i64 (.ofNat 8))) H fun t110 H =>
  pLss t105 t108 H fun t113 H =>
  onBool t113 (pGeq t105 t110 H fun t116 H =>
  pC call 199 [t0, t1, t100, t3] H fun _ H =>
  pAdd t100 (.int .i64 (.ofNat 1)) H fun t123 H =>
  q0 t0 t123 t2 t3 t116 t101 H) (pGeq t108 t110 H fun t126 H =>
  pAdd t100 (.int .i64 (.ofNat 1)) H fun t129 H =>
  pC call 199 [t0, t129, t2, t3] H fun _ H =>
  q0 t0 t1 t100 t3 t126 t101 H))
noncomputable def S199_2 (call : CallFn) (q0 : AV → AV → AV → AV → AV → AV → AHeap → R) (t0 t1 t2 t3 t8 t9 t10 t11 t75 t85 : AV) (H : AHeap) : R :=
  guardA t75 true (pO (aUn .not t85) H fun t86 H =>
  S199_1 call q0 t0 t1 t2 t3 t8 t9 t10 t11 t75 t86 H) (S199_1 call q0 t0 t1 t2 t3 t8 t9 t10 t11 t75 U H)
noncomputable def S199_3 (call : CallFn) (q0 : AV → AV → AV → AV → AV → AV → AHeap → R) (t0 t1 t2 t3 t8 t9 t10 t11 t75 t80 t84 : AV) (H : AHeap) : R :=
  guardA t75 true (pC call 225 [t80, t84] H fun t85 H =>
  S199_2 call q0 t0 t1 t2 t3 t8 t9 t10 t11 t75 t85 H) (S199_2 call q0 t0 t1 t2 t3 t8 t9 t10 t11 t75 U H)
noncomputable def S199_4 (call : CallFn) (q0 : AV → AV → AV → AV → AV → AV → AHeap → R) (t0 t1 t2 t3 t8 t9 t10 t11 t75 t80 t83 : AV) (H : AHeap) : R :=
  guardA t75 true (ldK .none H t83 fun t84 H =>
  S199_3 call q0 t0 t1 t2 t3 t8 t9 t10 t11 t75 t80 t84 H) (S199_3 call q0 t0 t1 t2 t3 t8 t9 t10 t11 t75 t80 U H)
noncomputable def S199_5 (call : CallFn) (q0 : AV → AV → AV → AV → AV → AV → AHeap → R) (t0 t1 t2 t3 t8 t9 t10 t11 t75 t80 t81 t82 : AV) (H : AHeap) : R :=
  guardA t75 true (pIa 1 t81 t82 H fun t83 H =>
  S199_4 call q0 t0 t1 t2 t3 t8 t9 t10 t11 t75 t80 t83 H) (S199_4 call q0 t0 t1 t2 t3 t8 t9 t10 t11 t75 t80 U H)
noncomputable def S199_6 (call : CallFn) (q0 : AV → AV → AV → AV → AV → AV → AHeap → R) (t0 t1 t2 t3 t8 t9 t10 t11 t75 t80 t81 : AV) (H : AHeap) : R :=
  guardA t75 true (S199_5 call q0 t0 t1 t2 t3 t8 t9 t10 t11 t75 t80 t81 t11 H) (S199_5 call q0 t0 t1 t2 t3 t8 t9 t10 t11 t75 t80 t81 U H)
noncomputable def S199_7 (call : CallFn) (q0 : AV → AV → AV → AV → AV → AV → AHeap → R) (t0 t1 t2 t3 t8 t9 t10 t11 t75 t80 : AV) (H : AHeap) : R :=
  guardA t75 true (S199_6 call q0 t0 t1 t2 t3 t8 t9 t10 t11 t75 t80 t0 H) (S199_6 call q0 t0 t1 t2 t3 t8 t9 t10 t11 t75 t80 U H)
noncomputable def S199_8 (call : CallFn) (q0 : AV → AV → AV → AV → AV → AV → AHeap → R) (t0 t1 t2 t3 t8 t9 t10 t11 t75 t79 : AV) (H : AHeap) : R :=
  guardA t75 true (ldK .none H t79 fun t80 H =>
  S199_7 call q0 t0 t1 t2 t3 t8 t9 t10 t11 t75 t80 H) (S199_7 call q0 t0 t1 t2 t3 t8 t9 t10 t11 t75 U H)
noncomputable def S199_9 (call : CallFn) (q0 : AV → AV → AV → AV → AV → AV → AHeap → R) (t0 t1 t2 t3 t8 t9 t10 t11 t75 t76 t78 : AV) (H : AHeap) : R :=
  guardA t75 true (pIa 1 t76 t78 H fun t79 H =>
  S199_8 call q0 t0 t1 t2 t3 t8 t9 t10 t11 t75 t79 H) (S199_8 call q0 t0 t1 t2 t3 t8 t9 t10 t11 t75 U H)
noncomputable def S199_10 (call : CallFn) (q0 : AV → AV → AV → AV → AV → AV → AHeap → R) (t0 t1 t2 t3 t8 t9 t10 t11 t75 t76 t77 : AV) (H : AHeap) : R :=
  guardA t75 true (pSub t77 (.int .i64 (.ofNat 1)) H fun t78 H =>
  S199_9 call q0 t0 t1 t2 t3 t8 t9 t10 t11 t75 t76 t78 H) (S199_9 call q0 t0 t1 t2 t3 t8 t9 t10 t11 t75 t76 U H)
noncomputable def S199_11 (call : CallFn) (q0 : AV → AV → AV → AV → AV → AV → AHeap → R) (t0 t1 t2 t3 t8 t9 t10 t11 t75 t76 : AV) (H : AHeap) : R :=
  guardA t75 true (S199_10 call q0 t0 t1 t2 t3 t8 t9 t10 t11 t75 t76 t1 H) (S199_10 call q0 t0 t1 t2 t3 t8 t9 t10 t11 t75 t76 U H)
noncomputable def S199_12 (call : CallFn) (q0 : AV → AV → AV → AV → AV → AV → AHeap → R) (t0 t1 t2 t3 t8 t9 t10 t11 : AV) (H : AHeap) : R :=
  pGtr t1 (.int .i64 (.ofNat 0)) H fun t74 H =>
  guardA t74 true (S199_11 call q0 t0 t1 t2 t3 t8 t9 t10 t11 t74 t0 H) (S199_11 call q0 t0 t1 t2 t3 t8 t9 t10 t11 t74 U H)
noncomputable def S199_13 (call : CallFn) (q0 : AV → AV → AV → AV → AV → AV → AHeap → R) (t0 t1 t2 t3 t8 t9 t10 t11 t65 t67 : AV) (H : AHeap) : R :=
  pPick t65 t67 (.bool false) H fun t68 H =>
  onBool t68 (pC call 224 [t0, t1, t2] H fun t72 H =>
  onBool t72 (some (.tup [], H)) (S199_12 call q0 t0 t1 t2 t3 t8 t9 t10 t11 H)) (S199_12 call q0 t0 t1 t2 t3 t8 t9 t10 t11 H)
noncomputable def S199_14 (call : CallFn) (q0 : AV → AV → AV → AV → AV → AV → AHeap → R) (t0 t1 t2 t3 t8 t9 t10 t11 t12 t62 t63 : AV) (H : AHeap) : R :=
  pPick t62 t63 (.bool false) H fun t64 H =>
  guardA t64 true (pEql t12 (.int .i64 (.ofNat 1)) H fun t67 H =>
  S199_13 call q0 t0 t1 t2 t3 t8 t9 t10 t11 t64 t67 H) (S199_13 call q0 t0 t1 t2 t3 t8 t9 t10 t11 t64 U H)
noncomputable def S199_15 (call : CallFn) (q0 : AV → AV → AV → AV → AV → AV → AHeap → R) (t0 t1 t2 t3 t8 t9 t10 t11 t12 : AV) (H : AHeap) : R :=
  guardA t8 true (S199_14 call q0 t0 t1 t2 t3 t8 t9 t10 t11 t12 t8 t9 H) (S199_14 call q0 t0 t1 t2 t3 t8 t9 t10 t11 t12 t8 U H)
noncomputable def S199_16 (call : CallFn) (q0 : AV → AV → AV → AV → AV → AV → AHeap → R) (t0 t1 t2 t3 t8 t9 t10 : AV) (H : AHeap) : R :=
  pC call 222 [t0, t1, t2] H fun t46 H =>
  pExt t46 0 H fun t47 H =>
  pExt t46 1 H fun t48 H =>
  pEql t48 (.int .i64 (.ofNat 2)) H fun t50 H =>
  onBool t50 (pC call 223 [t0, t1, t2] H fun _ H =>
  pSub t2 (.int .i64 (.ofNat 1)) H fun t56 H =>
  pSub t47 t1 H fun t59 H =>
  pSub t56 t59 H fun t60 H =>
  S199_15 call q0 t0 t1 t2 t3 t8 t9 t10 t60 (.int .i64 (.ofNat 1)) H) (S199_15 call q0 t0 t1 t2 t3 t8 t9 t10 t47 t48 H)
noncomputable def S199_0 (call : CallFn) (n : Nat) : AV → AV → AV → AV → AV → AV → AHeap → R :=
  Nat.rec (motive := fun _ => AV → AV → AV → AV → AV → AV → AHeap → R) (fun _ _ _ _ _ _ _ => none) (fun _ q0 t0 t1 t2 t3 t8 t9 H => pSub t2 t1 H fun t21 H =>
  pLeq t21 (.int .i64 (.ofNat 12)) H fun t23 H =>
  onBool t23 (pC call 219 [t0, t1, t2] H fun _ H =>
  some (.tup [], H)) (pEql t3 (.int .i64 (.ofNat 0)) H fun t29 H =>
  onBool t29 (pC call 220 [t0, t1, t2] H fun _ H =>
  some (.tup [], H)) (pO (aUn .not t8) H fun t35 H =>
  onBool t35 (pC call 221 [t0, t1, t2] H fun _ H =>
  pSub t3 (.int .i64 (.ofNat 1)) H fun t41 H =>
  S199_16 call q0 t0 t1 t2 t41 t8 t9 t21 H) (S199_16 call q0 t0 t1 t2 t3 t8 t9 t21 H)))) n
noncomputable def S199 : Ff := ⟨fun call l H => argA4 (fun t0 t1 t2 t3 => S199_0 call 1000000 t0 t1 t2 t3 (.bool true) (.bool true) H) l⟩
/- math/bits.Len -/
noncomputable def S200_0 (call : CallFn) (t0 : AV) (H : AHeap) : R :=
  onBool (.bool false) (pConv .u32 t0 H fun t4 H =>
  pC call 228 [t4] H fun t5 H =>
  some (t5, H)) (pC call 229 [t0] H fun t7 H =>
  some (t7, H))
noncomputable def S200 : Ff := ⟨fun call l H => argA1 (fun t0 => S200_0 call t0 H) l⟩
/- gantline/live.given$1 -/
noncomputable def S201_0 (_ : CallFn) (t0 : AV) (H : AHeap) : R :=
  pEql t0 (.int .i64 (.negSucc 0)) H fun t4 H =>
  some (t4, H)
noncomputable def S201 : Ff := ⟨fun call l H => argA1 (fun t0 => S201_0 call t0 H) l⟩
/- (*gantline/gantlineref19.parser).row -/
noncomputable def S208_1 (call : CallFn) (q0 : AV → AV → AV → AV → AV → AHeap → R) (t0 t1 t4 t5 t6 t7 t8 : AV) (H : AHeap) : R :=
  pEql t8 (.str []) H fun t51 H =>
  onBool t51 (ldK (.some 4) H t6 fun t52 H =>
  stK 4 H t4 t52 fun _ H =>
  ob (allM (fun o => o) [aLoad (.some 4) H t4]) fun vs => some (resV vs, H)) (ldK (.some 4) H t6 fun t55 H =>
  pAdd t1 (.int .i64 (.ofNat 1)) H fun t58 H =>
  pC call 208 [t0, t58] H fun t59 H =>
  andR (andB (ckV (aLoad (.some 4) H t6) t55) true) (
  pN (aBsl 4 2 [(.str []), (.str []), (.int .i64 (.ofNat 0)), .nilsl] [(0, 4, t55), (4, 4, t59)]) H fun t60 H =>
  pO (someAgg (aFill [(.str []), (.str []), (.int .i64 (.ofNat 0)), .nilsl] [(0, 1, (.str [98, 105, 110, 97, 114, 121])), (1, 1, t8), (2, 1, t7), (3, 1, t60)])) H fun t61 H =>
  stK 4 H t6 t61 fun _ H =>
  pEql t1 (.int .i64 (.ofNat 2)) H fun t63 H =>
  onBool t63 (ldK (.some 4) H t6 fun t64 H =>
  stK 4 H t4 t64 fun _ H =>
  ob (allM (fun o => o) [aLoad (.some 4) H t4]) fun vs => some (resV vs, H)) (q0 t0 t1 t4 t5 t6 H)))
noncomputable def S208_3 (_ : CallFn) (q1 : AV → AV → AV → AV → AV → AV → AV → AV → AHeap → R) (t0 t1 t4 t5 t6 t7 t8 t9 : AV) (H : AHeap) : R :=
  pAdd t9 (.int .i64 (.ofNat 1)) H fun t39 H =>
  q1 t0 t1 t4 t5 t6 t7 t8 t39 H
noncomputable def S208_4 (call : CallFn) (q0 : AV → AV → AV → AV → AV → AHeap → R) (q1 : AV → AV → AV → AV → AV → AV → AV → AV → AHeap → R) (t0 t1 t4 t5 t6 t7 t8 t9 t34 t36 : AV) (H : AHeap) : R :=
  pPick t34 t36 (.bool false) H fun t37 H =>
  onBool t37 (pIa 1 t5 t9 H fun t43 H =>
  ldK .none H t43 fun t44 H =>
  pC call 41 [t0, t44] H fun t45 H =>
  onBool t45 (pIa 1 t5 t9 H fun t48 H =>
  ldK .none H t48 fun t49 H =>
  S208_3 call q1 t0 t1 t4 t5 t6 t7 t49 t9 H) (S208_3 call q1 t0 t1 t4 t5 t6 t7 t8 t9 H)) (S208_1 call q0 t0 t1 t4 t5 t6 t7 t8 H)
noncomputable def S208_2 (call : CallFn) (q0 : AV → AV → AV → AV → AV → AHeap → R) (n : Nat) : AV → AV → AV → AV → AV → AV → AV → AV → AHeap → R :=
  Nat.rec (motive := fun _ => AV → AV → AV → AV → AV → AV → AV → AV → AHeap → R) (fun _ _ _ _ _ _ _ _ _ => none) (fun _ q1 t0 t1 t4 t5 t6 t7 t8 t9 H => pO (aLen .sl H t5) H fun t32 H =>
  pLss t9 t32 H fun t33 H =>
  guardA t33 true (pEql t8 (.str []) H fun t36 H =>
  S208_4 call q0 q1 t0 t1 t4 t5 t6 t7 t8 t9 t33 t36 H) (S208_4 call q0 q1 t0 t1 t4 t5 t6 t7 t8 t9 t33 U H)) n
noncomputable def S208_0 (call : CallFn) (n : Nat) : AV → AV → AV → AV → AV → AHeap → R :=
  Nat.rec (motive := fun _ => AV → AV → AV → AV → AV → AHeap → R) (fun _ _ _ _ _ _ => none) (fun _ q0 t0 t1 t4 t5 t6 H => pC call 40 [t0] H fun t28 H =>
  pO (aFld 2 .none t28) H fun t29 H =>
  S208_2 call q0 1000000 t0 t1 t4 t5 t6 t29 (.str []) (.int .i64 (.ofNat 0)) H) n
noncomputable def S208_5 (call : CallFn) (t0 t1 : AV) (H : AHeap) : R :=
  pNew [(.str []), (.str []), (.int .i64 (.ofNat 0)), .nilsl] H fun t4 H =>
  pEql t1 (.int .i64 (.ofNat 5)) H fun t11 H =>
  onBool t11 (pC call 230 [t0] H fun t13 H =>
  stK 4 H t4 t13 fun _ H =>
  ob (allM (fun o => o) [aLoad (.some 4) H t4]) fun vs => some (resV vs, H)) (pN (aBsl 1 1 [(.str [])] [(0, 1, (.str [124, 124]))]) H fun t14 H =>
  pN (aBsl 1 1 [(.str [])] [(0, 1, (.str [38, 38]))]) H fun t15 H =>
  pN (aBsl 1 6 [(.str [])] [(0, 1, (.str [61, 61])), (1, 1, (.str [33, 61])), (2, 1, (.str [60])), (3, 1, (.str [60, 61])), (4, 1, (.str [62])), (5, 1, (.str [62, 61]))]) H fun t16 H =>
  pN (aBsl 1 4 [(.str [])] [(0, 1, (.str [43])), (1, 1, (.str [45])), (2, 1, (.str [124])), (3, 1, (.str [94]))]) H fun t17 H =>
  pN (aBsl 1 6 [(.str [])] [(0, 1, (.str [42])), (1, 1, (.str [47])), (2, 1, (.str [37])), (3, 1, (.str [60, 60])), (4, 1, (.str [62, 62])), (5, 1, (.str [38]))]) H fun t18 H =>
  pN (aBsl 1 5 [.nilsl] [(0, 1, t14), (1, 1, t15), (2, 1, t16), (3, 1, t17), (4, 1, t18)]) H fun t19 H =>
  pIa 1 t19 t1 H fun t21 H =>
  ldK .none H t21 fun t22 H =>
  pAdd t1 (.int .i64 (.ofNat 1)) H fun t25 H =>
  pC call 208 [t0, t25] H fun t26 H =>
  pNew [(.str []), (.str []), (.int .i64 (.ofNat 0)), .nilsl] H fun t6 H =>
  stK 4 H t6 t26 fun _ H =>
  S208_0 call 1000000 t0 t1 t4 t22 t6 H)
noncomputable def S208 : Ff := ⟨fun call l H => argA2 (fun t0 t1 => S208_5 call t0 t1 H) l⟩
/- internal/stringslite.HasPrefix -/
noncomputable def S209_0 (_ : CallFn) (t10 t16 : AV) (H : AHeap) : R :=
  pPick t10 t16 (.bool false) H fun t17 H =>
  some (t17, H)
noncomputable def S209_1 (call : CallFn) (t0 t1 : AV) (H : AHeap) : R :=
  pO (aLen .str H t0) H fun t6 H =>
  pO (aLen .str H t1) H fun t8 H =>
  pGeq t6 t8 H fun t9 H =>
  guardA t9 true (pO (aLen .str H t1) H fun t13 H =>
  pO (aSliceS t0 .none (.some t13)) H fun t14 H =>
  pEql t14 t1 H fun t16 H =>
  S209_0 call t9 t16 H) (S209_0 call t9 U H)
noncomputable def S209 : Ff := ⟨fun call l H => argA2 (fun t0 t1 => S209_1 call t0 t1 H) l⟩
/- internal/strconv.ParseInt -/
noncomputable def S212_0 (_ : CallFn) (t8 t9 t10 t58 t61 : AV) (H : AHeap) : R :=
  pPick t58 t61 (.bool false) H fun t62 H =>
  onBool t62 (pConv .i64 t10 H fun t64 H =>
  pO (aUn .neg t64) H fun t65 H =>
  some (.tup [t65, (.iface 263 (.int .i64 (.ofNat 1)))], H)) (pConv .i64 t9 H fun t68 H =>
  onBool t8 (pO (aUn .neg t68) H fun t71 H =>
  some (.tup [t71, .nilif], H)) (some (.tup [t68, .nilif], H)))
noncomputable def S212_1 (call : CallFn) (t8 t9 t10 t48 t51 : AV) (H : AHeap) : R :=
  pPick t48 t51 (.bool false) H fun t52 H =>
  onBool t52 (pSub t10 (.int .u64 (.ofNat 1)) H fun t54 H =>
  pConv .i64 t54 H fun t55 H =>
  some (.tup [t55, (.iface 263 (.int .i64 (.ofNat 1)))], H)) (guardA t8 true (pGtr t9 t10 H fun t61 H =>
  S212_0 call t8 t9 t10 t8 t61 H) (S212_0 call t8 t9 t10 t8 U H))
noncomputable def S212_2 (call : CallFn) (t2 t8 t9 : AV) (H : AHeap) : R :=
  pSub t2 (.int .i64 (.ofNat 1)) H fun t43 H =>
  pConv .u64 t43 H fun t44 H =>
  pO (aBin .shl (.int .u64 (.ofNat 1)) t44) H fun t45 H =>
  pO (aUn .not t8) H fun t47 H =>
  guardA t47 true (pGeq t9 t45 H fun t51 H =>
  S212_1 call t8 t9 t45 t47 t51 H) (S212_1 call t8 t9 t45 t47 U H)
noncomputable def S212_3 (call : CallFn) (t2 t7 t8 t9 t34 t37 : AV) (H : AHeap) : R :=
  pPick t34 t37 (.bool false) H fun t38 H =>
  onBool t38 (some (.tup [(.int .i64 (.ofNat 0)), t7], H)) (pEql t2 (.int .i64 (.ofNat 0)) H fun t41 H =>
  onBool t41 (S212_2 call (.int .i64 (.ofNat 64)) t8 t9 H) (S212_2 call t2 t8 t9 H))
noncomputable def S212_4 (call : CallFn) (t0 t1 t2 t8 : AV) (H : AHeap) : R :=
  pC call 232 [t0, t1, t2] H fun t29 H =>
  pExt t29 0 H fun t30 H =>
  pExt t29 1 H fun t31 H =>
  pO (aEq true .ifc t31 .nilif) H fun t33 H =>
  guardA t33 true (none) (S212_3 call t2 t31 t8 t30 t33 U H)
noncomputable def S212_5 (call : CallFn) (t0 t1 t2 : AV) (H : AHeap) : R :=
  pEql t0 (.str []) H fun t13 H =>
  onBool t13 (some (.tup [(.int .i64 (.ofNat 0)), (.iface 263 (.int .i64 (.ofNat 2)))], H)) (pO (aIdxS t0 (.int .i64 (.ofNat 0))) H fun t16 H =>
  pEql t16 (.int .u8 (.ofNat 43)) H fun t18 H =>
  onBool t18 (pO (aSliceS t0 (.some (.int .i64 (.ofNat 1))) .none) H fun t20 H =>
  S212_4 call t20 t1 t2 (.bool false) H) (pEql t16 (.int .u8 (.ofNat 45)) H fun t22 H =>
  onBool t22 (pO (aSliceS t0 (.some (.int .i64 (.ofNat 1))) .none) H fun t24 H =>
  S212_4 call t24 t1 t2 (.bool true) H) (S212_4 call t0 t1 t2 (.bool false) H)))
noncomputable def S212 : Ff := ⟨fun call l H => argA3 (fun t0 t1 t2 => S212_5 call t0 t1 t2 H) l⟩
/- slices.insertionSortOrdered[int] -/
noncomputable def S219_1 (_ : CallFn) (q0 : AV → AV → AV → AV → AHeap → R) (t0 t1 t2 t6 : AV) (H : AHeap) : R :=
  pAdd t6 (.int .i64 (.ofNat 1)) H fun t14 H =>
  q0 t0 t1 t2 t14 H
noncomputable def S219_3 (call : CallFn) (q0 : AV → AV → AV → AV → AHeap → R) (q1 : AV → AV → AV → AV → AV → AHeap → R) (t0 t1 t2 t6 t7 t19 t29 : AV) (H : AHeap) : R :=
  pPick t19 t29 (.bool false) H fun t30 H =>
  onBool t30 (pSub t7 (.int .i64 (.ofNat 1)) H fun t37 H =>
  pSub t7 (.int .i64 (.ofNat 1)) H fun t40 H =>
  pIa 1 t0 t40 H fun t41 H =>
  ldK .none H t41 fun t42 H =>
  pIa 1 t0 t7 H fun t45 H =>
  ldK .none H t45 fun t46 H =>
  pIa 1 t0 t7 H fun t47 H =>
  stK 1 H t47 t42 fun _ H =>
  pIa 1 t0 t37 H fun t48 H =>
  stK 1 H t48 t46 fun _ H =>
  pSub t7 (.int .i64 (.ofNat 1)) H fun t32 H =>
  q1 t0 t1 t2 t6 t32 H) (S219_1 call q0 t0 t1 t2 t6 H)
noncomputable def S219_4 (call : CallFn) (q0 : AV → AV → AV → AV → AHeap → R) (q1 : AV → AV → AV → AV → AV → AHeap → R) (t0 t1 t2 t6 t7 t19 t23 t28 : AV) (H : AHeap) : R :=
  guardA t19 true (pC call 225 [t23, t28] H fun t29 H =>
  S219_3 call q0 q1 t0 t1 t2 t6 t7 t19 t29 H) (S219_3 call q0 q1 t0 t1 t2 t6 t7 t19 U H)
noncomputable def S219_5 (call : CallFn) (q0 : AV → AV → AV → AV → AHeap → R) (q1 : AV → AV → AV → AV → AV → AHeap → R) (t0 t1 t2 t6 t7 t19 t23 t27 : AV) (H : AHeap) : R :=
  guardA t19 true (ldK .none H t27 fun t28 H =>
  S219_4 call q0 q1 t0 t1 t2 t6 t7 t19 t23 t28 H) (S219_4 call q0 q1 t0 t1 t2 t6 t7 t19 t23 U H)
noncomputable def S219_6 (call : CallFn) (q0 : AV → AV → AV → AV → AHeap → R) (q1 : AV → AV → AV → AV → AV → AHeap → R) (t0 t1 t2 t6 t7 t19 t23 t24 t26 : AV) (H : AHeap) : R :=
  guardA t19 true (pIa 1 t24 t26 H fun t27 H =>
  S219_5 call q0 q1 t0 t1 t2 t6 t7 t19 t23 t27 H) (S219_5 call q0 q1 t0 t1 t2 t6 t7 t19 t23 U H)
noncomputable def S219_7 (call : CallFn) (q0 : AV → AV → AV → AV → AHeap → R) (q1 : AV → AV → AV → AV → AV → AHeap → R) (t0 t1 t2 t6 t7 t19 t23 t24 t25 : AV) (H : AHeap) : R :=
  guardA t19 true (pSub t25 (.int .i64 (.ofNat 1)) H fun t26 H =>
  S219_6 call q0 q1 t0 t1 t2 t6 t7 t19 t23 t24 t26 H) (S219_6 call q0 q1 t0 t1 t2 t6 t7 t19 t23 t24 U H)
noncomputable def S219_8 (call : CallFn) (q0 : AV → AV → AV → AV → AHeap → R) (q1 : AV → AV → AV → AV → AV → AHeap → R) (t0 t1 t2 t6 t7 t19 t23 t24 : AV) (H : AHeap) : R :=
  guardA t19 true (S219_7 call q0 q1 t0 t1 t2 t6 t7 t19 t23 t24 t7 H) (S219_7 call q0 q1 t0 t1 t2 t6 t7 t19 t23 t24 U H)
noncomputable def S219_9 (call : CallFn) (q0 : AV → AV → AV → AV → AHeap → R) (q1 : AV → AV → AV → AV → AV → AHeap → R) (t0 t1 t2 t6 t7 t19 t23 : AV) (H : AHeap) : R :=
  guardA t19 true (S219_8 call q0 q1 t0 t1 t2 t6 t7 t19 t23 t0 H) (S219_8 call q0 q1 t0 t1 t2 t6 t7 t19 t23 U H)
noncomputable def S219_10 (call : CallFn) (q0 : AV → AV → AV → AV → AHeap → R) (q1 : AV → AV → AV → AV → AV → AHeap → R) (t0 t1 t2 t6 t7 t19 t22 : AV) (H : AHeap) : R :=
  guardA t19 true (ldK .none H t22 fun t23 H =>
  S219_9 call q0 q1 t0 t1 t2 t6 t7 t19 t23 H) (S219_9 call q0 q1 t0 t1 t2 t6 t7 t19 U H)
noncomputable def S219_11 (call : CallFn) (q0 : AV → AV → AV → AV → AHeap → R) (q1 : AV → AV → AV → AV → AV → AHeap → R) (t0 t1 t2 t6 t7 t19 t20 t21 : AV) (H : AHeap) : R :=
  guardA t19 true (pIa 1 t20 t21 H fun t22 H =>
  S219_10 call q0 q1 t0 t1 t2 t6 t7 t19 t22 H) (S219_10 call q0 q1 t0 t1 t2 t6 t7 t19 U H)
noncomputable def S219_12 (call : CallFn) (q0 : AV → AV → AV → AV → AHeap → R) (q1 : AV → AV → AV → AV → AV → AHeap → R) (t0 t1 t2 t6 t7 t19 t20 : AV) (H : AHeap) : R :=
  guardA t19 true (S219_11 call q0 q1 t0 t1 t2 t6 t7 t19 t20 t7 H) (S219_11 call q0 q1 t0 t1 t2 t6 t7 t19 t20 U H)
noncomputable def S219_2 (call : CallFn) (q0 : AV → AV → AV → AV → AHeap → R) (n : Nat) : AV → AV → AV → AV → AV → AHeap → R :=
  Nat.rec (motive := fun _ => AV → AV → AV → AV → AV → AHeap → R) (fun _ _ _ _ _ _ => none) (fun _ q1 t0 t1 t2 t6 t7 H => pGtr t7 t1 H fun t18 H =>
  guardA t18 true (S219_12 call q0 q1 t0 t1 t2 t6 t7 t18 t0 H) (S219_12 call q0 q1 t0 t1 t2 t6 t7 t18 U H)) n
noncomputable def S219_0 (call : CallFn) (n : Nat) : AV → AV → AV → AV → AHeap → R :=
  Nat.rec (motive := fun _ => AV → AV → AV → AV → AHeap → R) (fun _ _ _ _ _ => none) (fun _ q0 t0 t1 t2 t6 H => pLss t6 t2 H fun t12 H =>
  onBool t12 (S219_2 call q0 1000000 t0 t1 t2 t6 t6 H) (some (.tup [], H))) n
noncomputable def S219_13 (call : CallFn) (t0 t1 t2 : AV) (H : AHeap) : R :=
  pAdd t1 (.int .i64 (.ofNat 1)) H fun t9 H =>
  S219_0 call 1000000 t0 t1 t2 t9 H
noncomputable def S219 : Ff := ⟨fun call l H => argA3 (fun t0 t1 t2 => S219_13 call t0 t1 t2 H) l⟩
/- math/bits.Len64 -/
noncomputable def S229_0 (_ : CallFn) (t0 t2 : AV) (H : AHeap) : R :=
  pConv .u8 t0 H fun t21 H =>
  pO (aIdxS (.str [0, 1, 2, 2, 3, 3, 3, 3, 4, 4, 4, 4, 4, 4, 4, 4, 5, 5, 5, 5, 5, 5, 5, 5, 5, 5, 5, 5, 5, 5, 5, 5, 6, 6, 6, 6, 6, 6, 6, 6, 6, 6, 6, 6, 6, 6, 6, 6, 6, 6, 6, 6, 6, 6, 6, 6, 6, 6, 6, 6, 6, 6, 6, 6, 7, 7, 7, 7, 7, 7, 7, 7, 7, 7, 7, 7, 7, 7, 7, 7, 7, 7, 7, 7, 7, 7, 7, 7, 7, 7, 7, 7, 7, 7, 7, 7, 7, 7, 7, 7, 7, 7, 7, 7, 7, 7, 7, 7, 7, 7, 7, 7, 7, 7, 7, 7, 7, 7, 7, 7, 7, 7, 7, 7, 7, 7, 7, 7, 8, 8, 8, 8, 8, 8, 8, 8, 8, 8, 8, 8, 8, 8, 8, 8, 8, 8, 8, 8, 8, 8, 8, 8, 8, 8, 8, 8, 8, 8, 8, 8, 8, 8, 8, 8, 8, 8, 8, 8, 8, 8, 8, 8, 8, 8, 8, 8, 8, 8, 8, 8, 8, 8, 8, 8, 8, 8, 8, 8, 8, 8, 8, 8, 8, 8, 8, 8, 8, 8, 8, 8, 8, 8, 8, 8, 8, 8, 8, 8, 8, 8, 8, 8, 8, 8, 8, 8, 8, 8, 8, 8, 8, 8, 8, 8, 8, 8, 8, 8, 8, 8, 8, 8, 8, 8, 8, 8, 8, 8, 8, 8, 8, 8, 8, 8, 8, 8, 8, 8, 8, 8, 8, 8, 8, 8, 8, 8]) t21) H fun t22 H =>
  pConv .i64 t22 H fun t23 H =>
  pAdd t2 t23 H fun t24 H =>
  some (t24, H)
noncomputable def S229_1 (call : CallFn) (t0 t2 : AV) (H : AHeap) : R :=
  pGeq t0 (.int .u64 (.ofNat 256)) H fun t14 H =>
  onBool t14 (pO (aBin .shr t0 (.int .u64 (.ofNat 8))) H fun t16 H =>
  pAdd t2 (.int .i64 (.ofNat 8)) H fun t18 H =>
  S229_0 call t16 t18 H) (S229_0 call t0 t2 H)
noncomputable def S229_2 (call : CallFn) (t0 t2 : AV) (H : AHeap) : R :=
  pGeq t0 (.int .u64 (.ofNat 65536)) H fun t8 H =>
  onBool t8 (pO (aBin .shr t0 (.int .u64 (.ofNat 16))) H fun t10 H =>
  pAdd t2 (.int .i64 (.ofNat 16)) H fun t12 H =>
  S229_1 call t10 t12 H) (S229_1 call t0 t2 H)
noncomputable def S229_3 (call : CallFn) (t0 : AV) (H : AHeap) : R :=
  pGeq t0 (.int .u64 (.ofNat 4294967296)) H fun t4 H =>
  onBool t4 (pO (aBin .shr t0 (.int .u64 (.ofNat 32))) H fun t6 H =>
  S229_2 call t6 (.int .i64 (.ofNat 32)) H) (S229_2 call t0 (.int .i64 (.ofNat 0)) H)
noncomputable def S229 : Ff := ⟨fun call l H => argA1 (fun t0 => S229_3 call t0 H) l⟩
/- (*gantline/gantlineref19.parser).unary -/
noncomputable def S230_0 (call : CallFn) (t0 t2 t3 t11 t13 : AV) (H : AHeap) : R :=
  pPick t11 (.bool true) t13 H fun t14 H =>
  onBool t14 (pC call 74 [t0] H fun t16 H =>
  pO (aUn .not t16) H fun t17 H =>
  onBool t17 (pO (someAgg (aFill [(.str []), (.str []), (.int .i64 (.ofNat 0)), .nilsl] [])) H fun t18 H =>
  stK 4 H t2 t18 fun _ H =>
  ob (allM (fun o => o) [aLoad (.some 4) H t2]) fun vs => some (resV vs, H)) (pC call 40 [t0] H fun t20 H =>
  pO (aFld 1 .none t20) H fun t21 H =>
  pO (aNil t0) H fun t23 H =>
  pFa 1 t23 H fun t24 H =>
  ldK .none H t24 fun t25 H =>
  pAdd t25 (.int .i64 (.ofNat 1)) H fun t26 H =>
  pO (aNil t0) H fun t27 H =>
  pFa 1 t27 H fun t28 H =>
  stK 1 H t28 t26 fun _ H =>
  pC call 230 [t0] H fun t32 H =>
  pN (aBsl 4 1 [(.str []), (.str []), (.int .i64 (.ofNat 0)), .nilsl] [(0, 4, t32)]) H fun t33 H =>
  pO (someAgg (aFill [(.str []), (.str []), (.int .i64 (.ofNat 0)), .nilsl] [(0, 1, (.str [117, 110, 97, 114, 121])), (1, 1, t21), (2, 1, t3), (3, 1, t33)])) H fun t34 H =>
  pNew [(.str []), (.str []), (.int .i64 (.ofNat 0)), .nilsl] H fun t5 H =>
  stK 4 H t5 t34 fun _ H =>
  pC call 76 [t0] H fun _ H =>
  ldK (.some 4) H t5 fun t37 H =>
  stK 4 H t2 t37 fun _ H =>
  ob (allM (fun o => o) [aLoad (.some 4) H t2]) fun vs => some (resV vs, H))) (pC call 246 [t0] H fun t39 H =>
  stK 4 H t2 t39 fun _ H =>
  ob (allM (fun o => o) [aLoad (.some 4) H t2]) fun vs => some (resV vs, H))
noncomputable def S230_1 (call : CallFn) (t0 : AV) (H : AHeap) : R :=
  pNew [(.str []), (.str []), (.int .i64 (.ofNat 0)), .nilsl] H fun t2 H =>
  pC call 40 [t0] H fun t7 H =>
  pO (aFld 2 .none t7) H fun t8 H =>
  pC call 44 [t0, (.str [45])] H fun t10 H =>
  guardA t10 false (pC call 44 [t0, (.str [33])] H fun t13 H =>
  S230_0 call t0 t2 t8 t10 t13 H) (S230_0 call t0 t2 t8 t10 U H)
noncomputable def S230 : Ff := ⟨fun call l H => argA1 (fun t0 => S230_1 call t0 H) l⟩
/- internal/strconv.ParseUint -/
noncomputable def S232_0 (_ : CallFn) (t13 t165 t168 : AV) (H : AHeap) : R :=
  pPick t165 t168 (.bool false) H fun t169 H =>
  onBool t169 (some (.tup [(.int .u64 (.ofNat 0)), (.iface 263 (.int .i64 (.ofNat 2)))], H)) (some (.tup [t13, .nilif], H))
noncomputable def S232_1 (call : CallFn) (t9 t12 t13 : AV) (H : AHeap) : R :=
  guardA t12 true (pC call 248 [t9] H fun t167 H =>
  pO (aUn .not t167) H fun t168 H =>
  S232_0 call t13 t12 t168 H) (S232_0 call t13 t12 U H)
noncomputable def S232_3 (_ : CallFn) (q0 : AV → AV → AV → AV → AV → AV → AV → AV → AV → AV → AHeap → R) (t1 t8 t9 t10 t11 t12 t13 t99 t100 t101 : AV) (H : AHeap) : R :=
  pAdd t101 (.int .i64 (.ofNat 1)) H fun t163 H =>
  q0 t1 t8 t9 t10 t11 t12 t13 t99 t100 t163 H
noncomputable def S232_4 (call : CallFn) (q0 : AV → AV → AV → AV → AV → AV → AV → AV → AV → AV → AHeap → R) (t1 t8 t9 t10 t11 t12 t17 t99 t100 t101 t155 t158 : AV) (H : AHeap) : R :=
  pPick t155 (.bool true) t158 H fun t159 H =>
  onBool t159 (some (.tup [t11, (.iface 263 (.int .i64 (.ofNat 1)))], H)) (S232_3 call q0 t1 t8 t9 t10 t11 t12 t17 t99 t100 t101 H)
noncomputable def S232_5 (call : CallFn) (q0 : AV → AV → AV → AV → AV → AV → AV → AV → AV → AV → AHeap → R) (t1 t8 t9 t10 t11 t12 t13 t16 t99 t100 t101 : AV) (H : AHeap) : R :=
  pConv .u8 t1 H fun t136 H =>
  pGeq t16 t136 H fun t137 H =>
  onBool t137 (some (.tup [(.int .u64 (.ofNat 0)), (.iface 263 (.int .i64 (.ofNat 2)))], H)) (pGeq t13 t10 H fun t141 H =>
  onBool t141 (some (.tup [t11, (.iface 263 (.int .i64 (.ofNat 1)))], H)) (pConv .u64 t1 H fun t146 H =>
  pMul t13 t146 H fun t147 H =>
  pConv .u64 t16 H fun t150 H =>
  pAdd t147 t150 H fun t151 H =>
  pLss t151 t147 H fun t154 H =>
  guardA t154 false (pGtr t151 t11 H fun t158 H =>
  S232_4 call q0 t1 t8 t9 t10 t11 t12 t151 t99 t100 t101 t154 t158 H) (S232_4 call q0 t1 t8 t9 t10 t11 t12 t151 t99 t100 t101 t154 U H)))
noncomputable def S232_6 (call : CallFn) (q0 : AV → AV → AV → AV → AV → AV → AV → AV → AV → AV → AHeap → R) (t1 t8 t9 t10 t11 t12 t13 t15 t99 t100 t101 t125 t128 : AV) (H : AHeap) : R :=
  pPick t125 t128 (.bool false) H fun t129 H =>
  onBool t129 (pC call 247 [t15] H fun t131 H =>
  pSub t131 (.int .u8 (.ofNat 97)) H fun t132 H =>
  pAdd t132 (.int .u8 (.ofNat 10)) H fun t133 H =>
  S232_5 call q0 t1 t8 t9 t10 t11 t12 t13 t133 t99 t100 t101 H) (some (.tup [(.int .u64 (.ofNat 0)), (.iface 263 (.int .i64 (.ofNat 2)))], H))
noncomputable def S232_7 (call : CallFn) (q0 : AV → AV → AV → AV → AV → AV → AV → AV → AV → AV → AHeap → R) (t1 t8 t9 t10 t11 t12 t13 t15 t99 t100 t101 t115 t117 : AV) (H : AHeap) : R :=
  pPick t115 t117 (.bool false) H fun t118 H =>
  onBool t118 (pSub t15 (.int .u8 (.ofNat 48)) H fun t120 H =>
  S232_5 call q0 t1 t8 t9 t10 t11 t12 t13 t120 t99 t100 t101 H) (pC call 247 [t15] H fun t123 H =>
  pLeq (.int .u8 (.ofNat 97)) t123 H fun t124 H =>
  guardA t124 true (pC call 247 [t15] H fun t127 H =>
  pLeq t127 (.int .u8 (.ofNat 122)) H fun t128 H =>
  S232_6 call q0 t1 t8 t9 t10 t11 t12 t13 t15 t99 t100 t101 t124 t128 H) (S232_6 call q0 t1 t8 t9 t10 t11 t12 t13 t15 t99 t100 t101 t124 U H))
noncomputable def S232_8 (call : CallFn) (q0 : AV → AV → AV → AV → AV → AV → AV → AV → AV → AV → AHeap → R) (t1 t8 t9 t10 t11 t12 t13 t15 t99 t100 t101 t109 t110 : AV) (H : AHeap) : R :=
  pPick t109 t110 (.bool false) H fun t111 H =>
  onBool t111 (S232_3 call q0 t1 t8 t9 t10 t11 (.bool true) t13 t99 t100 t101 H) (pLeq (.int .u8 (.ofNat 48)) t15 H fun t114 H =>
  guardA t114 true (pLeq t15 (.int .u8 (.ofNat 57)) H fun t117 H =>
  S232_7 call q0 t1 t8 t9 t10 t11 t12 t13 t15 t99 t100 t101 t114 t117 H) (S232_7 call q0 t1 t8 t9 t10 t11 t12 t13 t15 t99 t100 t101 t114 U H))
noncomputable def S232_2 (call : CallFn) (n : Nat) : AV → AV → AV → AV → AV → AV → AV → AV → AV → AV → AHeap → R :=
  Nat.rec (motive := fun _ => AV → AV → AV → AV → AV → AV → AV → AV → AV → AV → AHeap → R) (fun _ _ _ _ _ _ _ _ _ _ _ => none) (fun _ q0 t1 t8 t9 t10 t11 t12 t13 t99 t100 t101 H => pLss t101 t100 H fun t102 H =>
  onBool t102 (pIa 1 t99 t101 H fun t103 H =>
  ldK .none H t103 fun t104 H =>
  pEql t104 (.int .u8 (.ofNat 95)) H fun t108 H =>
  guardA t108 true (S232_8 call q0 t1 t8 t9 t10 t11 t12 t13 t104 t99 t100 t101 t108 t8 H) (S232_8 call q0 t1 t8 t9 t10 t11 t12 t13 t104 t99 t100 t101 t108 U H)) (S232_1 call t9 t12 t13 H)) n
noncomputable def S232_9 (call : CallFn) (t0 t1 t2 t8 t9 t10 : AV) (H : AHeap) : R :=
  pConv .u64 t2 H fun t95 H =>
  pO (aBin .shl (.int .u64 (.ofNat 1)) t95) H fun t96 H =>
  pSub t96 (.int .u64 (.ofNat 1)) H fun t97 H =>
  pW (aS2b H t0) fun t99 H =>
  pO (aLen .sl H t99) H fun t100 H =>
  S232_2 call 1000000 t1 t8 t9 t10 t97 (.bool false) (.int .u64 (.ofNat 0)) t99 t100 (.int .i64 (.ofNat 0)) H
noncomputable def S232_10 (call : CallFn) (t0 t1 t2 t8 t9 : AV) (H : AHeap) : R :=
  pEql t1 (.int .i64 (.ofNat 10)) H fun t91 H =>
  onBool t91 (S232_9 call t0 t1 t2 t8 t9 (.int .u64 (.ofNat 1844674407370955162)) H) (pEql t1 (.int .i64 (.ofNat 16)) H fun t93 H =>
  onBool t93 (S232_9 call t0 t1 t2 t8 t9 (.int .u64 (.ofNat 1152921504606846976)) H) (pConv .u64 t1 H fun t87 H =>
  pO (aBin .quo (.int .u64 (.ofNat 18446744073709551615)) t87) H fun t88 H =>
  pAdd t88 (.int .u64 (.ofNat 1)) H fun t89 H =>
  S232_9 call t0 t1 t2 t8 t9 t89 H))
noncomputable def S232_11 (call : CallFn) (t0 t1 t2 t8 t9 t80 t82 : AV) (H : AHeap) : R :=
  pPick t80 (.bool true) t82 H fun t83 H =>
  onBool t83 (some (.tup [(.int .u64 (.ofNat 0)), (.iface 263 (.int .i64 (.ofNat 4)))], H)) (S232_10 call t0 t1 t2 t8 t9 H)
noncomputable def S232_12 (call : CallFn) (t0 t1 t2 t8 t9 : AV) (H : AHeap) : R :=
  pEql t2 (.int .i64 (.ofNat 0)) H fun t77 H =>
  onBool t77 (S232_10 call t0 t1 (.int .i64 (.ofNat 64)) t8 t9 H) (pLss t2 (.int .i64 (.ofNat 0)) H fun t79 H =>
  guardA t79 false (pGtr t2 (.int .i64 (.ofNat 64)) H fun t82 H =>
  S232_11 call t0 t1 t2 t8 t9 t79 t82 H) (S232_11 call t0 t1 t2 t8 t9 t79 U H))
noncomputable def S232_13 (call : CallFn) (t0 t2 t8 t9 t68 t72 : AV) (H : AHeap) : R :=
  pPick t68 t72 (.bool false) H fun t73 H =>
  onBool t73 (pO (aSliceS t0 (.some (.int .i64 (.ofNat 2))) .none) H fun t75 H =>
  S232_12 call t75 (.int .i64 (.ofNat 16)) t2 t8 t9 H) (pO (aSliceS t0 (.some (.int .i64 (.ofNat 1))) .none) H fun t39 H =>
  S232_12 call t39 (.int .i64 (.ofNat 8)) t2 t8 t9 H)
noncomputable def S232_14 (call : CallFn) (t0 t2 t8 t9 t56 t60 : AV) (H : AHeap) : R :=
  pPick t56 t60 (.bool false) H fun t61 H =>
  onBool t61 (pO (aSliceS t0 (.some (.int .i64 (.ofNat 2))) .none) H fun t63 H =>
  S232_12 call t63 (.int .i64 (.ofNat 8)) t2 t8 t9 H) (pO (aLen .str H t0) H fun t66 H =>
  pGeq t66 (.int .i64 (.ofNat 3)) H fun t67 H =>
  guardA t67 true (pO (aIdxS t0 (.int .i64 (.ofNat 1))) H fun t70 H =>
  pC call 247 [t70] H fun t71 H =>
  pEql t71 (.int .u8 (.ofNat 120)) H fun t72 H =>
  S232_13 call t0 t2 t8 t9 t67 t72 H) (S232_13 call t0 t2 t8 t9 t67 U H))
noncomputable def S232_15 (call : CallFn) (t0 t2 t8 t9 t44 t48 : AV) (H : AHeap) : R :=
  pPick t44 t48 (.bool false) H fun t49 H =>
  onBool t49 (pO (aSliceS t0 (.some (.int .i64 (.ofNat 2))) .none) H fun t51 H =>
  S232_12 call t51 (.int .i64 (.ofNat 2)) t2 t8 t9 H) (pO (aLen .str H t0) H fun t54 H =>
  pGeq t54 (.int .i64 (.ofNat 3)) H fun t55 H =>
  guardA t55 true (pO (aIdxS t0 (.int .i64 (.ofNat 1))) H fun t58 H =>
  pC call 247 [t58] H fun t59 H =>
  pEql t59 (.int .u8 (.ofNat 111)) H fun t60 H =>
  S232_14 call t0 t2 t8 t9 t55 t60 H) (S232_14 call t0 t2 t8 t9 t55 U H))
noncomputable def S232_16 (call : CallFn) (t0 t1 t2 t8 t9 t28 t30 : AV) (H : AHeap) : R :=
  pPick t28 t30 (.bool false) H fun t31 H =>
  onBool t31 (S232_12 call t0 t1 t2 t8 t9 H) (pEql t1 (.int .i64 (.ofNat 0)) H fun t34 H =>
  onBool t34 (pO (aIdxS t0 (.int .i64 (.ofNat 0))) H fun t36 H =>
  pEql t36 (.int .u8 (.ofNat 48)) H fun t37 H =>
  onBool t37 (pO (aLen .str H t0) H fun t42 H =>
  pGeq t42 (.int .i64 (.ofNat 3)) H fun t43 H =>
  guardA t43 true (pO (aIdxS t0 (.int .i64 (.ofNat 1))) H fun t46 H =>
  pC call 247 [t46] H fun t47 H =>
  pEql t47 (.int .u8 (.ofNat 98)) H fun t48 H =>
  S232_15 call t0 t2 t8 t9 t43 t48 H) (S232_15 call t0 t2 t8 t9 t43 U H)) (S232_12 call t0 (.int .i64 (.ofNat 10)) t2 t8 t9 H)) (some (.tup [(.int .u64 (.ofNat 0)), (.iface 263 (.int .i64 (.ofNat 3)))], H)))
noncomputable def S232_17 (call : CallFn) (t0 t1 t2 : AV) (H : AHeap) : R :=
  pEql t0 (.str []) H fun t19 H =>
  onBool t19 (some (.tup [(.int .u64 (.ofNat 0)), (.iface 263 (.int .i64 (.ofNat 2)))], H)) (pEql t1 (.int .i64 (.ofNat 0)) H fun t22 H =>
  pLeq (.int .i64 (.ofNat 2)) t1 H fun t27 H =>
  guardA t27 true (pLeq t1 (.int .i64 (.ofNat 36)) H fun t30 H =>
  S232_16 call t0 t1 t2 t22 t0 t27 t30 H) (S232_16 call t0 t1 t2 t22 t0 t27 U H))
noncomputable def S232 : Ff := ⟨fun call l H => argA3 (fun t0 t1 t2 => S232_17 call t0 t1 t2 H) l⟩
/- (*gantline/gantlineref19.parser).post -/
noncomputable def S246_0 (_ : CallFn) (t2 t3 : AV) (H : AHeap) : R :=
  ldK (.some 4) H t3 fun t66 H =>
  stK 4 H t2 t66 fun _ H =>
  ob (allM (fun o => o) [aLoad (.some 4) H t2]) fun vs => some (resV vs, H)
noncomputable def S246_2 (call : CallFn) (q0 : AV → AV → AV → AHeap → R) (t0 t2 t3 t5 : AV) (H : AHeap) : R :=
  pC call 43 [t0, (.str [41])] H fun _ H =>
  ldK (.some 4) H t5 fun t45 H =>
  stK 4 H t3 t45 fun _ H =>
  q0 t0 t2 t3 H
noncomputable def S246_3 (call : CallFn) (q0 : AV → AV → AV → AHeap → R) (n : Nat) : AV → AV → AV → AV → AHeap → R :=
  Nat.rec (motive := fun _ => AV → AV → AV → AV → AHeap → R) (fun _ _ _ _ _ => none) (fun _ q1 t0 t2 t3 t5 H => pC call 41 [t0, (.str [44])] H fun t35 H =>
  onBool t35 (pFa 3 t5 H fun t36 H =>
  ldK .none H t36 fun t37 H =>
  pC call 256 [t0] H fun t39 H =>
  andR (andB (ckV (aLoad .none H t36) t37) true) (
  pN (aBsl 4 1 [(.str []), (.str []), (.int .i64 (.ofNat 0)), .nilsl] [(0, 4, t39)]) H fun t40 H =>
  pW (aApp 4 64 H t37 t40) fun t41 H =>
  pFa 3 t5 H fun t42 H =>
  stK 1 H t42 t41 fun _ H =>
  q1 t0 t2 t3 t5 H)) (S246_2 call q0 t0 t2 t3 t5 H)) n
noncomputable def S246_1 (call : CallFn) (n : Nat) : AV → AV → AV → AHeap → R :=
  Nat.rec (motive := fun _ => AV → AV → AV → AHeap → R) (fun _ _ _ _ => none) (fun _ q0 t0 t2 t3 H => pO (aNil t0) H fun t9 H =>
  pFa 2 t9 H fun t10 H =>
  ldK .none H t10 fun t11 H =>
  pLss t11 (.int .i64 (.ofNat 0)) H fun t12 H =>
  onBool t12 (pC call 40 [t0] H fun t14 H =>
  pO (aFld 2 .none t14) H fun t15 H =>
  pC call 41 [t0, (.str [40])] H fun t19 H =>
  onBool t19 (ldK (.some 4) H t3 fun t21 H =>
  pN (aBsl 4 1 [(.str []), (.str []), (.int .i64 (.ofNat 0)), .nilsl] [(0, 4, t21)]) H fun t22 H =>
  pO (someAgg (aFill [(.str []), (.str []), (.int .i64 (.ofNat 0)), .nilsl] [(0, 1, (.str [99, 97, 108, 108])), (2, 1, t15), (3, 1, t22)])) H fun t23 H =>
  pNew [(.str []), (.str []), (.int .i64 (.ofNat 0)), .nilsl] H fun t5 H =>
  stK 4 H t5 t23 fun _ H =>
  pC call 44 [t0, (.str [41])] H fun t25 H =>
  pO (aUn .not t25) H fun t26 H =>
  onBool t26 (pFa 3 t5 H fun t27 H =>
  ldK .none H t27 fun t28 H =>
  pC call 256 [t0] H fun t30 H =>
  andR (andB (ckV (aLoad .none H t27) t28) true) (
  pN (aBsl 4 1 [(.str []), (.str []), (.int .i64 (.ofNat 0)), .nilsl] [(0, 4, t30)]) H fun t31 H =>
  pW (aApp 4 64 H t28 t31) fun t32 H =>
  pFa 3 t5 H fun t33 H =>
  stK 1 H t33 t32 fun _ H =>
  S246_3 call q0 1000000 t0 t2 t3 t5 H)) (S246_2 call q0 t0 t2 t3 t5 H)) (pC call 41 [t0, (.str [91])] H fun t48 H =>
  onBool t48 (ldK (.some 4) H t3 fun t50 H =>
  pC call 256 [t0] H fun t52 H =>
  andR (andB (ckV (aLoad (.some 4) H t3) t50) true) (
  pN (aBsl 4 2 [(.str []), (.str []), (.int .i64 (.ofNat 0)), .nilsl] [(0, 4, t50), (4, 4, t52)]) H fun t53 H =>
  pO (someAgg (aFill [(.str []), (.str []), (.int .i64 (.ofNat 0)), .nilsl] [(0, 1, (.str [105, 110, 100, 101, 120])), (2, 1, t15), (3, 1, t53)])) H fun t54 H =>
  stK 4 H t3 t54 fun _ H =>
  pC call 43 [t0, (.str [93])] H fun _ H =>
  q0 t0 t2 t3 H)) (pC call 41 [t0, (.str [46])] H fun t59 H =>
  onBool t59 (ldK (.some 4) H t3 fun t63 H =>
  pN (aBsl 4 1 [(.str []), (.str []), (.int .i64 (.ofNat 0)), .nilsl] [(0, 4, t63)]) H fun t64 H =>
  pC call 42 [t0] H fun t62 H =>
  andR (andB (ckV (aLoad (.some 4) H t3) t63) true) (
  pO (someAgg (aFill [(.str []), (.str []), (.int .i64 (.ofNat 0)), .nilsl] [(0, 1, (.str [100, 111, 116])), (2, 1, t15), (1, 1, t62), (3, 1, t64)])) H fun t65 H =>
  stK 4 H t3 t65 fun _ H =>
  q0 t0 t2 t3 H)) (ldK (.some 4) H t3 fun t16 H =>
  stK 4 H t2 t16 fun _ H =>
  ob (allM (fun o => o) [aLoad (.some 4) H t2]) fun vs => some (resV vs, H))))) (S246_0 call t2 t3 H)) n
noncomputable def S246_4 (call : CallFn) (t0 : AV) (H : AHeap) : R :=
  pNew [(.str []), (.str []), (.int .i64 (.ofNat 0)), .nilsl] H fun t2 H =>
  pC call 255 [t0] H fun t7 H =>
  pNew [(.str []), (.str []), (.int .i64 (.ofNat 0)), .nilsl] H fun t3 H =>
  stK 4 H t3 t7 fun _ H =>
  S246_1 call 1000000 t0 t2 t3 H
noncomputable def S246 : Ff := ⟨fun call l H => argA1 (fun t0 => S246_4 call t0 H) l⟩
/- (*gantline/gantlineref19.parser).prim -/
noncomputable def S255_0 (call : CallFn) (t0 t2 t3 t18 t22 : AV) (H : AHeap) : R :=
  pPick t18 t22 (.bool false) H fun t23 H =>
  onBool t23 (pO (aNil t0) H fun t25 H =>
  pFa 1 t25 H fun t26 H =>
  ldK .none H t26 fun t27 H =>
  pAdd t27 (.int .i64 (.ofNat 1)) H fun t28 H =>
  pO (aNil t0) H fun t29 H =>
  pFa 1 t29 H fun t30 H =>
  stK 1 H t30 t28 fun _ H =>
  pO (aNil t0) H fun t33 H =>
  pFa 0 t33 H fun t34 H =>
  ldK .none H t34 fun t35 H =>
  pO (aNil t0) H fun t37 H =>
  pFa 1 t37 H fun t38 H =>
  ldK .none H t38 fun t39 H =>
  pSub t39 (.int .i64 (.ofNat 1)) H fun t40 H =>
  pIa 3 t35 t40 H fun t41 H =>
  pFa 1 t41 H fun t42 H =>
  ldK .none H t42 fun t43 H =>
  pO (someAgg (aFill [(.str []), (.str []), (.int .i64 (.ofNat 0)), .nilsl] [(0, 1, (.str [110, 117, 109, 98, 101, 114])), (2, 1, t3), (1, 1, t43)])) H fun t44 H =>
  stK 4 H t2 t44 fun _ H =>
  ob (allM (fun o => o) [aLoad (.some 4) H t2]) fun vs => some (resV vs, H)) (pC call 41 [t0, (.str [116, 114, 117, 101])] H fun t47 H =>
  onBool t47 (pO (someAgg (aFill [(.str []), (.str []), (.int .i64 (.ofNat 0)), .nilsl] [(0, 1, (.str [116, 114, 117, 101])), (2, 1, t3)])) H fun t49 H =>
  stK 4 H t2 t49 fun _ H =>
  ob (allM (fun o => o) [aLoad (.some 4) H t2]) fun vs => some (resV vs, H)) (pC call 41 [t0, (.str [102, 97, 108, 115, 101])] H fun t52 H =>
  onBool t52 (pO (someAgg (aFill [(.str []), (.str []), (.int .i64 (.ofNat 0)), .nilsl] [(0, 1, (.str [102, 97, 108, 115, 101])), (2, 1, t3)])) H fun t54 H =>
  stK 4 H t2 t54 fun _ H =>
  ob (allM (fun o => o) [aLoad (.some 4) H t2]) fun vs => some (resV vs, H)) (pC call 41 [t0, (.str [110, 105, 108])] H fun t57 H =>
  onBool t57 (pC call 43 [t0, (.str [40])] H fun _ H =>
  pC call 45 [t0] H fun t62 H =>
  pN (aBsl 4 1 [(.str []), (.str []), (.int .i64 (.ofNat 0)), .nilsl] [(0, 4, t62)]) H fun t63 H =>
  pO (someAgg (aFill [(.str []), (.str []), (.int .i64 (.ofNat 0)), .nilsl] [(0, 1, (.str [110, 105, 108])), (2, 1, t3), (3, 1, t63)])) H fun t64 H =>
  pNew [(.str []), (.str []), (.int .i64 (.ofNat 0)), .nilsl] H fun t4 H =>
  stK 4 H t4 t64 fun _ H =>
  pC call 43 [t0, (.str [41])] H fun _ H =>
  ldK (.some 4) H t4 fun t67 H =>
  stK 4 H t2 t67 fun _ H =>
  ob (allM (fun o => o) [aLoad (.some 4) H t2]) fun vs => some (resV vs, H)) (pC call 41 [t0, (.str [110, 101, 119])] H fun t70 H =>
  onBool t70 (pC call 42 [t0] H fun t73 H =>
  pO (someAgg (aFill [(.str []), (.str []), (.int .i64 (.ofNat 0)), .nilsl] [(0, 1, (.str [110, 101, 119])), (2, 1, t3), (1, 1, t73)])) H fun t74 H =>
  stK 4 H t2 t74 fun _ H =>
  ob (allM (fun o => o) [aLoad (.some 4) H t2]) fun vs => some (resV vs, H)) (pC call 41 [t0, (.str [109, 97, 107, 101])] H fun t77 H =>
  onBool t77 (pC call 43 [t0, (.str [40])] H fun _ H =>
  pC call 45 [t0] H fun t81 H =>
  pNew [(.str []), (.str []), (.int .i64 (.ofNat 0)), .nilsl] H fun t5 H =>
  stK 4 H t5 t81 fun _ H =>
  pC call 43 [t0, (.str [44])] H fun _ H =>
  ldK (.some 4) H t5 fun t85 H =>
  pNew [(.str []), (.str []), (.int .i64 (.ofNat 0)), .nilsl] H fun t6 H =>
  pC call 256 [t0] H fun t87 H =>
  andR (andB (ckV (aLoad (.some 4) H t5) t85) true) (
  pN (aBsl 4 2 [(.str []), (.str []), (.int .i64 (.ofNat 0)), .nilsl] [(0, 4, t85), (4, 4, t87)]) H fun t88 H =>
  pO (someAgg (aFill [(.str []), (.str []), (.int .i64 (.ofNat 0)), .nilsl] [(0, 1, (.str [109, 97, 107, 101])), (2, 1, t3), (3, 1, t88)])) H fun t89 H =>
  stK 4 H t6 t89 fun _ H =>
  pC call 43 [t0, (.str [41])] H fun _ H =>
  ldK (.some 4) H t6 fun t92 H =>
  stK 4 H t2 t92 fun _ H =>
  ob (allM (fun o => o) [aLoad (.some 4) H t2]) fun vs => some (resV vs, H))) (pC call 41 [t0, (.str [108, 101, 110])] H fun t95 H =>
  onBool t95 (pC call 43 [t0, (.str [40])] H fun _ H =>
  pC call 256 [t0] H fun t100 H =>
  pN (aBsl 4 1 [(.str []), (.str []), (.int .i64 (.ofNat 0)), .nilsl] [(0, 4, t100)]) H fun t101 H =>
  pO (someAgg (aFill [(.str []), (.str []), (.int .i64 (.ofNat 0)), .nilsl] [(0, 1, (.str [108, 101, 110])), (2, 1, t3), (3, 1, t101)])) H fun t102 H =>
  pNew [(.str []), (.str []), (.int .i64 (.ofNat 0)), .nilsl] H fun t7 H =>
  stK 4 H t7 t102 fun _ H =>
  pC call 43 [t0, (.str [41])] H fun _ H =>
  ldK (.some 4) H t7 fun t105 H =>
  stK 4 H t2 t105 fun _ H =>
  ob (allM (fun o => o) [aLoad (.some 4) H t2]) fun vs => some (resV vs, H)) (pC call 41 [t0, (.str [114, 101, 99, 118])] H fun t108 H =>
  onBool t108 (pC call 43 [t0, (.str [40])] H fun _ H =>
  pC call 256 [t0] H fun t113 H =>
  pN (aBsl 4 1 [(.str []), (.str []), (.int .i64 (.ofNat 0)), .nilsl] [(0, 4, t113)]) H fun t114 H =>
  pO (someAgg (aFill [(.str []), (.str []), (.int .i64 (.ofNat 0)), .nilsl] [(0, 1, (.str [114, 101, 99, 118])), (2, 1, t3), (3, 1, t114)])) H fun t115 H =>
  pNew [(.str []), (.str []), (.int .i64 (.ofNat 0)), .nilsl] H fun t8 H =>
  stK 4 H t8 t115 fun _ H =>
  pC call 43 [t0, (.str [41])] H fun _ H =>
  ldK (.some 4) H t8 fun t118 H =>
  stK 4 H t2 t118 fun _ H =>
  ob (allM (fun o => o) [aLoad (.some 4) H t2]) fun vs => some (resV vs, H)) (pC call 41 [t0, (.str [102, 117, 110, 99])] H fun t121 H =>
  onBool t121 (pC call 46 [t0] H fun t124 H =>
  pO (someAgg (aFill [(.str []), (.str []), (.int .i64 (.ofNat 0)), .nilsl] [(0, 1, (.str [108, 97, 109, 98, 100, 97])), (2, 1, t3), (3, 1, t124)])) H fun t125 H =>
  stK 4 H t2 t125 fun _ H =>
  ob (allM (fun o => o) [aLoad (.some 4) H t2]) fun vs => some (resV vs, H)) (pC call 41 [t0, (.str [40])] H fun t128 H =>
  onBool t128 (pC call 256 [t0] H fun t130 H =>
  pNew [(.str []), (.str []), (.int .i64 (.ofNat 0)), .nilsl] H fun t9 H =>
  stK 4 H t9 t130 fun _ H =>
  pC call 43 [t0, (.str [41])] H fun _ H =>
  ldK (.some 4) H t9 fun t133 H =>
  stK 4 H t2 t133 fun _ H =>
  ob (allM (fun o => o) [aLoad (.some 4) H t2]) fun vs => some (resV vs, H)) (pC call 42 [t0] H fun t136 H =>
  pO (someAgg (aFill [(.str []), (.str []), (.int .i64 (.ofNat 0)), .nilsl] [(0, 1, (.str [110, 97, 109, 101])), (2, 1, t3), (1, 1, t136)])) H fun t137 H =>
  stK 4 H t2 t137 fun _ H =>
  ob (allM (fun o => o) [aLoad (.some 4) H t2]) fun vs => some (resV vs, H)))))))))))
noncomputable def S255_1 (call : CallFn) (t0 : AV) (H : AHeap) : R :=
  pNew [(.str []), (.str []), (.int .i64 (.ofNat 0)), .nilsl] H fun t2 H =>
  pC call 40 [t0] H fun t11 H =>
  pO (aFld 2 .none t11) H fun t12 H =>
  pO (aNil t0) H fun t14 H =>
  pFa 2 t14 H fun t15 H =>
  ldK .none H t15 fun t16 H =>
  pLss t16 (.int .i64 (.ofNat 0)) H fun t17 H =>
  guardA t17 true (pC call 40 [t0] H fun t20 H =>
  pO (aFld 0 .none t20) H fun t21 H =>
  pEql t21 (.int .i64 (.ofNat 3)) H fun t22 H =>
  S255_0 call t0 t2 t12 t17 t22 H) (S255_0 call t0 t2 t12 t17 U H)
noncomputable def S255 : Ff := ⟨fun call l H => argA1 (fun t0 => S255_1 call t0 H) l⟩
end Go.Proofs.YtgmcjcgnkdomnaaGreatDoor
