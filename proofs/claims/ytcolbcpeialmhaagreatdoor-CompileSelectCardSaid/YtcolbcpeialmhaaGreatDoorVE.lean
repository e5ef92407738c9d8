/- Plain functions, printed. -/
import Derived.Test.YtcolbcpeialmhaaGreatDoorA2
import Derived.Test.YtcolbcpeialmhaaGreatDoorProg
import Derived.Test.YtcolbcpeialmhaaGreatDoorVF
import Derived.KernelRfl
namespace Go.Proofs.YtcolbcpeialmhaaGreatDoor
open Go.Ab
noncomputable section
set_option maxRecDepth 100000
def B3 (_ : aa) (t0 t1 t2 t8 t12 : AV) (H : AHeap) : R :=
 ai t8 t12 (.bool false) H fun t13 H =>
 ab t13 (pIa 3 t0 t1 H fun t16 H =>
 pFa 2 t16 H fun t17 H =>
 ldK .none H t17 fun t18 H =>
 pOr t18 t2 H fun t20 H =>
 pIa 3 t0 t1 H fun t21 H =>
 pFa 2 t21 H fun t22 H =>
 stK 1 H t22 t20 fun _ H =>
 some (.tup [], H)) (some (.tup [], H))
def Xb (call : aa) (t0 t1 t2 : AV) (H : AHeap) : R :=
 aZ t1 (iN 0) H fun t7 H =>
 ae t7 true (pO (aw .sl H t0) H fun t11 H =>
 aE t1 t11 H fun t12 H =>
 B3 call t0 t1 t2 t7 t12 H) (B3 call t0 t1 t2 t7 U H)
def a59 : Ff := ⟨fun call l H => aY (fun t0 t1 t2 => Xb call t0 t1 t2 H) l⟩
def j3 (_ : aa) (t4 : AV) (H : AHeap) : R :=
 ab t4 (some ((.bool true), H)) (some ((.bool false), H))
def Xa (call : aa) (t0 : AV) (H : AHeap) : R :=
 aj t0 (iN 35) H fun t5 H =>
 ab t5 (j3 call t5 H) (aj t0 (iN 20) H fun t6 H =>
 ab t6 (j3 call t6 H) (aj t0 (iN 21) H fun t7 H =>
 ab t7 (j3 call t7 H) (aj t0 (iN 23) H fun t8 H =>
 ab t8 (j3 call t8 H) (aj t0 (iN 24) H fun t9 H =>
 ab t9 (j3 call t9 H) (aj t0 (iN 22) H fun t10 H =>
 j3 call t10 H)))))
def a58 : Ff := ⟨fun call l H => az (fun t0 => Xa call t0 H) l⟩
def B2 (_ : aa) (t6 t11 : AV) (H : AHeap) : R :=
 ai t6 (.bool true) t11 H fun t12 H =>
 some (t12, H)
def X9 (call : aa) (t0 t1 : AV) (H : AHeap) : R :=
 aE t0 (iN 0) H fun t5 H =>
 ae t5 false (pFa 5 t1 H fun t8 H =>
 ldK .none H t8 fun t9 H =>
 pO (aw .sl H t9) H fun t10 H =>
 aZ t0 t10 H fun t11 H =>
 B2 call t5 t11 H) (B2 call t5 U H)
def a56 : Ff := ⟨fun call l H => ax (fun t0 t1 => X9 call t0 t1 H) l⟩
def X8 (call : aa) (t0 : AV) (H : AHeap) : R :=
 pO (aw .sl H t0) H fun t4 H =>
 aU .u64 t4 H fun t8 H =>
 pC call a0a [t8] H fun t9 H =>
 pC call a79 [t0, (iN 0), t4, t9] H fun _ H =>
 some (.tup [], H)
def a55 : Ff := ⟨fun call l H => az (fun t0 => X8 call t0 H) l⟩
def Jd (_ : aa) (q0 : AV → AV → AHeap → R) (t0 t3 : AV) (H : AHeap) : R :=
 ay t3 (iN 1) H fun t15 H =>
 q0 t0 t15 H
def Jc (_ : aa) (t0 t3 : AV) (H : AHeap) : R :=
 pO (bT 1 H t0 (.some t3) .none .none) H fun t56 H =>
 pW (cG (fU [(iN 0)] H t56)) fun _ H =>
 pO (bT 1 H t0 .none (.some t3) .none) H fun t59 H =>
 some (t59, H)
def AZ (_ : aa) (q1 : AV → AV → AV → AV → AHeap → R) (t0 t3 t4 t5 : AV) (H : AHeap) : R :=
 ay t5 (iN 1) H fun t34 H =>
 q1 t0 t3 t4 t34 H
def B0 (call : aa) (n : Nat) : AV → AV → AV → AV → AHeap → R :=
 Nat.rec (motive := fun _ => AV → AV → AV → AV → AHeap → R) (fun _ _ _ _ _ => none) (fun _ q1 t0 t3 t4 t5 H => pO (aw .sl H t4) H fun t31 H =>
 aE t5 t31 H fun t32 H =>
 ab t32 (pIa 1 t4 t5 H fun t37 H =>
 ldK .none H t37 fun t38 H =>
 db t5 (iN 1) H fun t41 H =>
 pIa 1 t4 t41 H fun t42 H =>
 ldK .none H t42 fun t43 H =>
 aQ t38 t43 H fun t44 H =>
 ab t44 (pIa 1 t4 t5 H fun t49 H =>
 ldK .none H t49 fun t50 H =>
 pIa 1 t0 t3 H fun t51 H =>
 stK 1 H t51 t50 fun _ H =>
 ay t3 (iN 1) H fun t53 H =>
 AZ call q1 t0 t53 t4 t5 H) (AZ call q1 t0 t3 t4 t5 H)) (Jc call t0 t3 H)) n
def B1 (call : aa) (n : Nat) : AV → AV → AHeap → R :=
 Nat.rec (motive := fun _ => AV → AV → AHeap → R) (fun _ _ _ => none) (fun _ q0 t0 t3 H => pO (aw .sl H t0) H fun t12 H =>
 aE t3 t12 H fun t13 H =>
 ab t13 (pIa 1 t0 t3 H fun t18 H =>
 ldK .none H t18 fun t19 H =>
 db t3 (iN 1) H fun t22 H =>
 pIa 1 t0 t22 H fun t23 H =>
 ldK .none H t23 fun t24 H =>
 aj t19 t24 H fun t25 H =>
 ab t25 (pO (bT 1 H t0 (.some t3) .none .none) H fun t28 H =>
 B0 call 1000000 t0 t3 t28 (iN 1) H) (Jd call q0 t0 t3 H)) (some (t0, H))) n
def X7 (call : aa) (t0 : AV) (H : AHeap) : R :=
 pO (aw .sl H t0) H fun t7 H =>
 aE t7 (iN 2) H fun t8 H =>
 ab t8 (some (t0, H)) (B1 call 1000000 t0 (iN 1) H)
def a54 : Ff := ⟨fun call l H => az (fun t0 => X7 call t0 H) l⟩
def Jb (call : aa) (n : Nat) : AV → AV → AV → AV → AHeap → R :=
 Nat.rec (motive := fun _ => AV → AV → AV → AV → AHeap → R) (fun _ _ _ _ _ => none) (fun _ q0 t0 t1 t7 t8 H => aE t8 t7 H fun t9 H =>
 ab t9 (pIa 1 t0 t8 H fun t14 H =>
 ldK .none H t14 fun t15 H =>
 pV call t1 [t15] H fun t16 H =>
 ab t16 (some (t8, H)) (ay t8 (iN 1) H fun t18 H =>
 q0 t0 t1 t7 t18 H)) (some ((.int .i64 (.negSucc 0)), H))) n
def X6 (call : aa) (t0 t1 : AV) (H : AHeap) : R :=
 pO (aw .sl H t0) H fun t7 H =>
 Jb call 1000000 t0 t1 t7 (iN 0) H
def a52 : Ff := ⟨fun call l H => ax (fun t0 t1 => X6 call t0 t1 H) l⟩
def X5 (_ : aa) (t0 : AV) (H : AHeap) : R :=
 ba t0 H fun t1 H =>
 some ((.fn Sm [] [t1]), H)
def a51 : Ff := ⟨fun call l H => az (fun t0 => X5 call t0 H) l⟩
def AY (_ : aa) (q0 : AV → AV → AV → AV → AV → AV → AV → AV → AHeap → R) (t0 t1 t2 t10 t11 t85 t86 t87 : AV) (H : AHeap) : R :=
 ay t87 (iN 1) H fun t113 H =>
 q0 t0 t1 t2 t10 t11 t85 t86 t113 H
def AX (call : aa) (q0 : AV → AV → AV → AV → AV → AV → AV → AV → AHeap → R) (t0 t1 t2 t10 t11 t12 t13 t85 t86 t87 t95 : AV) (H : AHeap) : R :=
 ab t95 (pFa 0 t13 H fun t103 H =>
 ldK .none H t103 fun t104 H =>
 aj t104 (iN 1) H fun t105 H =>
 pFa 1 t13 H fun t106 H =>
 ldK .none H t106 fun t107 H =>
 pFa 2 t13 H fun t108 H =>
 ldK .none H t108 fun t109 H =>
 pC call LL [t0, t1, t2, t12, t105, t107, t109] H fun t110 H =>
 pN (aM 4 1 [(iN 0), (.bool false), (iN 0), (.bool false)] [(0, 4, t110)]) H fun t111 H =>
 pW (bz 4 32 H t10 t111) fun t112 H =>
 AY call q0 t0 t1 t2 t112 t11 t85 t86 t87 H) (AY call q0 t0 t1 t2 t10 t12 t85 t86 t87 H)
def sM (call : aa) (n : Nat) : AV → AV → AV → AV → AV → AV → AV → AV → AHeap → R :=
 Nat.rec (motive := fun _ => AV → AV → AV → AV → AV → AV → AV → AV → AHeap → R) (fun _ _ _ _ _ _ _ _ _ => none) (fun _ q0 t0 t1 t2 t10 t11 t85 t86 t87 H => aE t87 t86 H fun t88 H =>
 ab t88 (pIa 4 t85 t87 H fun t90 H =>
 ldK (.some 4) H t90 fun t91 H =>
 aB [(iN 0), (iN 0), (iN 0), (iN 0)] H fun t13 H =>
 stK 4 H t13 t91 fun _ H =>
 pFa 0 t13 H fun t92 H =>
 ldK .none H t92 fun t93 H =>
 aj t93 (iN 0) H fun t96 H =>
 ab t96 (AX call q0 t0 t1 t2 t10 t11 t87 t13 t85 t86 t87 t96 H) (aj t93 (iN 1) H fun t97 H =>
 AX call q0 t0 t1 t2 t10 t11 t87 t13 t85 t86 t87 t97 H)) (some (.tup [t10, t11], H))) n
def AW (call : aa) (t0 t1 t2 t7 t59 t71 : AV) (H : AHeap) : R :=
 ai t59 (.bool true) t71 H fun t72 H =>
 ab t72 (some (.tup [.nilsl, (.int .i64 (.negSucc 0))], H)) (pO (af t0) H fun t74 H =>
 pFa 0 t74 H fun t75 H =>
 pFa 3 t75 H fun t76 H =>
 ldK .none H t76 fun t77 H =>
 pFa 1 t7 H fun t78 H =>
 ldK .none H t78 fun t79 H =>
 pFa 1 t7 H fun t80 H =>
 ldK .none H t80 fun t81 H =>
 pFa 2 t7 H fun t82 H =>
 ldK .none H t82 fun t83 H =>
 ay t81 t83 H fun t84 H =>
 pO (bT 4 H t77 (.some t79) (.some t84) .none) H fun t85 H =>
 pO (aw .sl H t85) H fun t86 H =>
 sM call 1000000 t0 t1 t2 .nilsl (.int .i64 (.negSucc 0)) t85 t86 (iN 0) H)
def AU (call : aa) (t0 t1 t2 t7 t59 t61 t70 : AV) (H : AHeap) : R :=
 ae t59 false (dj t61 t70 H fun t71 H =>
 AW call t0 t1 t2 t7 t59 t71 H) (AW call t0 t1 t2 t7 t59 U H)
def AT (call : aa) (t0 t1 t2 t7 t59 t61 t67 t69 : AV) (H : AHeap) : R :=
 ae t59 false (db t67 t69 H fun t70 H =>
 AU call t0 t1 t2 t7 t59 t61 t70 H) (AU call t0 t1 t2 t7 t59 t61 U H)
def AS (call : aa) (t0 t1 t2 t7 t59 t61 t67 t68 : AV) (H : AHeap) : R :=
 ae t59 false (ldK .none H t68 fun t69 H =>
 AT call t0 t1 t2 t7 t59 t61 t67 t69 H) (AT call t0 t1 t2 t7 t59 t61 t67 U H)
def AR (call : aa) (t0 t1 t2 t7 t59 t61 t67 : AV) (H : AHeap) : R :=
 ae t59 false (pFa 1 t7 H fun t68 H =>
 AS call t0 t1 t2 t7 t59 t61 t67 t68 H) (AS call t0 t1 t2 t7 t59 t61 t67 U H)
def AQ (call : aa) (t0 t1 t2 t7 t59 t61 t66 : AV) (H : AHeap) : R :=
 ae t59 false (pO (aw .sl H t66) H fun t67 H =>
 AR call t0 t1 t2 t7 t59 t61 t67 H) (AR call t0 t1 t2 t7 t59 t61 U H)
def AP (call : aa) (t0 t1 t2 t7 t59 t61 t65 : AV) (H : AHeap) : R :=
 ae t59 false (ldK .none H t65 fun t66 H =>
 AQ call t0 t1 t2 t7 t59 t61 t66 H) (AQ call t0 t1 t2 t7 t59 t61 U H)
def sL (call : aa) (t0 t1 t2 t7 t59 t61 t64 : AV) (H : AHeap) : R :=
 ae t59 false (pFa 3 t64 H fun t65 H =>
 AP call t0 t1 t2 t7 t59 t61 t65 H) (AP call t0 t1 t2 t7 t59 t61 U H)
def sK (call : aa) (t0 t1 t2 t7 t59 t61 t63 : AV) (H : AHeap) : R :=
 ae t59 false (pFa 0 t63 H fun t64 H =>
 sL call t0 t1 t2 t7 t59 t61 t64 H) (sL call t0 t1 t2 t7 t59 t61 U H)
def sJ (call : aa) (t0 t1 t2 t7 t59 t61 t62 : AV) (H : AHeap) : R :=
 ae t59 false (pO (af t62) H fun t63 H =>
 sK call t0 t1 t2 t7 t59 t61 t63 H) (sK call t0 t1 t2 t7 t59 t61 U H)
def sI (call : aa) (t0 t1 t2 t7 t59 t61 : AV) (H : AHeap) : R :=
 ae t59 false (sJ call t0 t1 t2 t7 t59 t61 t0 H) (sJ call t0 t1 t2 t7 t59 t61 U H)
def sH (call : aa) (t0 t1 t2 t7 t59 t60 : AV) (H : AHeap) : R :=
 ae t59 false (ldK .none H t60 fun t61 H =>
 sI call t0 t1 t2 t7 t59 t61 H) (sI call t0 t1 t2 t7 t59 U H)
def sG (call : aa) (t0 t1 t2 t7 t48 t57 : AV) (H : AHeap) : R :=
 ai t48 (.bool true) t57 H fun t58 H =>
 ae t58 false (pFa 2 t7 H fun t60 H =>
 sH call t0 t1 t2 t7 t58 t60 H) (sH call t0 t1 t2 t7 t58 U H)
def sF (call : aa) (t0 t1 t2 t7 t48 t50 t56 : AV) (H : AHeap) : R :=
 ae t48 false (dj t50 t56 H fun t57 H =>
 sG call t0 t1 t2 t7 t48 t57 H) (sG call t0 t1 t2 t7 t48 U H)
def sE (call : aa) (t0 t1 t2 t7 t48 t50 t55 : AV) (H : AHeap) : R :=
 ae t48 false (pO (aw .sl H t55) H fun t56 H =>
 sF call t0 t1 t2 t7 t48 t50 t56 H) (sF call t0 t1 t2 t7 t48 t50 U H)
def sD (call : aa) (t0 t1 t2 t7 t48 t50 t54 : AV) (H : AHeap) : R :=
 ae t48 false (ldK .none H t54 fun t55 H =>
 sE call t0 t1 t2 t7 t48 t50 t55 H) (sE call t0 t1 t2 t7 t48 t50 U H)
def sC (call : aa) (t0 t1 t2 t7 t48 t50 t53 : AV) (H : AHeap) : R :=
 ae t48 false (pFa 3 t53 H fun t54 H =>
 sD call t0 t1 t2 t7 t48 t50 t54 H) (sD call t0 t1 t2 t7 t48 t50 U H)
def sB (call : aa) (t0 t1 t2 t7 t48 t50 t52 : AV) (H : AHeap) : R :=
 ae t48 false (pFa 0 t52 H fun t53 H =>
 sC call t0 t1 t2 t7 t48 t50 t53 H) (sC call t0 t1 t2 t7 t48 t50 U H)
def sA (call : aa) (t0 t1 t2 t7 t48 t50 t51 : AV) (H : AHeap) : R :=
 ae t48 false (pO (af t51) H fun t52 H =>
 sB call t0 t1 t2 t7 t48 t50 t52 H) (sB call t0 t1 t2 t7 t48 t50 U H)
def sy (call : aa) (t0 t1 t2 t7 t48 t50 : AV) (H : AHeap) : R :=
 ae t48 false (sA call t0 t1 t2 t7 t48 t50 t0 H) (sA call t0 t1 t2 t7 t48 t50 U H)
def sx (call : aa) (t0 t1 t2 t7 t48 t49 : AV) (H : AHeap) : R :=
 ae t48 false (ldK .none H t49 fun t50 H =>
 sy call t0 t1 t2 t7 t48 t50 H) (sy call t0 t1 t2 t7 t48 U H)
def sw (call : aa) (t0 t1 t2 t7 t43 t46 : AV) (H : AHeap) : R :=
 ai t43 (.bool true) t46 H fun t47 H =>
 ae t47 false (pFa 1 t7 H fun t49 H =>
 sx call t0 t1 t2 t7 t47 t49 H) (sx call t0 t1 t2 t7 t47 U H)
def su (call : aa) (t0 t1 t2 t7 t43 t45 : AV) (H : AHeap) : R :=
 ae t43 false (aE t45 (iN 0) H fun t46 H =>
 sw call t0 t1 t2 t7 t43 t46 H) (sw call t0 t1 t2 t7 t43 U H)
def sm (call : aa) (t0 t1 t2 t7 t43 t44 : AV) (H : AHeap) : R :=
 ae t43 false (ldK .none H t44 fun t45 H =>
 su call t0 t1 t2 t7 t43 t45 H) (su call t0 t1 t2 t7 t43 U H)
def P7 (call : aa) (t0 t1 t2 t3 : AV) (H : AHeap) : R :=
 ba t3 H fun t7 H =>
 pFa 0 t7 H fun t14 H =>
 ldK .none H t14 fun t15 H =>
 aj t15 (iN 38) H fun t17 H =>
 ab t17 (pFa 1 t7 H fun t21 H =>
 ldK .none H t21 fun t22 H =>
 pFa 2 t7 H fun t23 H =>
 ldK .none H t23 fun t24 H =>
 pC call LL [t0, t1, t2, (.int .i64 (.negSucc 0)), (.bool true), t22, t24] H fun t25 H =>
 pN (aM 4 1 [(iN 0), (.bool false), (iN 0), (.bool false)] [(0, 4, t25)]) H fun t26 H =>
 some (.tup [t26, (.int .i64 (.negSucc 0))], H)) (aj t15 (iN 39) H fun t28 H =>
 ab t28 (pFa 2 t7 H fun t32 H =>
 ldK .none H t32 fun t33 H =>
 pFa 1 t7 H fun t34 H =>
 ldK .none H t34 fun t35 H =>
 pC call LL [t0, t1, t2, (.int .i64 (.negSucc 0)), (.bool false), t33, t35] H fun t36 H =>
 pN (aM 4 1 [(iN 0), (.bool false), (iN 0), (.bool false)] [(0, 4, t36)]) H fun t37 H =>
 some (.tup [t37, (.int .i64 (.negSucc 0))], H)) (aj t15 (iN 41) H fun t39 H =>
 ab t39 (pFa 1 t7 H fun t40 H =>
 ldK .none H t40 fun t41 H =>
 aE t41 (iN 0) H fun t42 H =>
 ae t42 false (pFa 2 t7 H fun t44 H =>
 sm call t0 t1 t2 t7 t42 t44 H) (sm call t0 t1 t2 t7 t42 U H)) (some (.tup [.nilsl, (.int .i64 (.negSucc 0))], H))))
def a50 : Ff := ⟨fun call l H => dh (fun t0 t1 t2 t3 => P7 call t0 t1 t2 t3 H) l⟩
def AO (call : aa) (t0 t1 t2 t7 t9 t53 t58 : AV) (H : AHeap) : R :=
 ai t53 t58 (.bool false) H fun t59 H =>
 ab t59 (some (t9, H)) (pFa 2 t7 H fun t63 H =>
 ldK .none H t63 fun t64 H =>
 pC call vx [t1, t64] H fun t65 H =>
 aj t65 (iN 0) H fun t66 H =>
 ab t66 (ldK (.some 4) H t7 fun t70 H =>
 pC call a78 [t0, t1, t2, t70] H fun t71 H =>
 some (t71, H)) (some (.nilsl, H)))
def AN (call : aa) (t0 t1 t2 t7 t9 t37 t46 : AV) (H : AHeap) : R :=
 ai t37 t46 (.bool false) H fun t47 H =>
 ab t47 (some (t9, H)) (pFa 1 t7 H fun t50 H =>
 ldK .none H t50 fun t51 H =>
 pO (aUn .not t51) H fun t52 H =>
 ae t52 true (pFa 2 t7 H fun t55 H =>
 ldK .none H t55 fun t56 H =>
 pC call vy [t1, t56] H fun t57 H =>
 dj t57 (iN 0) H fun t58 H =>
 AO call t0 t1 t2 t7 t9 t52 t58 H) (AO call t0 t1 t2 t7 t9 t52 U H))
def AM (call : aa) (t0 t1 t2 t7 t9 t37 t41 t45 : AV) (H : AHeap) : R :=
 ae t37 true (aE t41 t45 H fun t46 H =>
 AN call t0 t1 t2 t7 t9 t37 t46 H) (AN call t0 t1 t2 t7 t9 t37 U H)
def AL (call : aa) (t0 t1 t2 t7 t9 t37 t41 t42 t43 t44 : AV) (H : AHeap) : R :=
 aR (aA (gdB t37 true (ckV (ah .none H t43) t44)) true) (
 ae t37 true (pC call vx [t42, t44] H fun t45 H =>
 AM call t0 t1 t2 t7 t9 t37 t41 t45 H) (AM call t0 t1 t2 t7 t9 t37 t41 U H))
def AK (call : aa) (t0 t1 t2 t7 t9 t37 t38 t40 t42 t43 t44 : AV) (H : AHeap) : R :=
 ae t37 true (pC call vy [t38, t40] H fun t41 H =>
 AL call t0 t1 t2 t7 t9 t37 t41 t42 t43 t44 H) (AL call t0 t1 t2 t7 t9 t37 U t42 t43 t44 H)
def AJ (call : aa) (t0 t1 t2 t7 t9 t37 t38 t40 t42 t43 : AV) (H : AHeap) : R :=
 ae t37 true (ldK .none H t43 fun t44 H =>
 AK call t0 t1 t2 t7 t9 t37 t38 t40 t42 t43 t44 H) (AK call t0 t1 t2 t7 t9 t37 t38 t40 t42 t43 U H)
def AI (call : aa) (t0 t1 t2 t7 t9 t37 t38 t40 t42 : AV) (H : AHeap) : R :=
 ae t37 true (pFa 2 t7 H fun t43 H =>
 AJ call t0 t1 t2 t7 t9 t37 t38 t40 t42 t43 H) (AJ call t0 t1 t2 t7 t9 t37 t38 t40 t42 U H)
def AH (call : aa) (t0 t1 t2 t7 t9 t37 t38 t40 : AV) (H : AHeap) : R :=
 ae t37 true (AI call t0 t1 t2 t7 t9 t37 t38 t40 t1 H) (AI call t0 t1 t2 t7 t9 t37 t38 t40 U H)
def AG (call : aa) (t0 t1 t2 t7 t9 t37 t38 t39 : AV) (H : AHeap) : R :=
 ae t37 true (ldK .none H t39 fun t40 H =>
 AH call t0 t1 t2 t7 t9 t37 t38 t40 H) (AH call t0 t1 t2 t7 t9 t37 t38 U H)
def AF (call : aa) (t0 t1 t2 t7 t9 t37 t38 : AV) (H : AHeap) : R :=
 ae t37 true (pFa 2 t7 H fun t39 H =>
 AG call t0 t1 t2 t7 t9 t37 t38 t39 H) (AG call t0 t1 t2 t7 t9 t37 t38 U H)
def sk (call : aa) (t0 t1 t2 t7 t9 t27 t31 : AV) (H : AHeap) : R :=
 ai t27 (.bool true) t31 H fun t32 H =>
 ab t32 (some (t9, H)) (pFa 1 t7 H fun t35 H =>
 ldK .none H t35 fun t36 H =>
 ae t36 true (AF call t0 t1 t2 t7 t9 t36 t1 H) (AF call t0 t1 t2 t7 t9 t36 U H))
def sj (call : aa) (t0 t1 t2 t7 t9 t18 t21 : AV) (H : AHeap) : R :=
 ai t18 t21 (.bool false) H fun t22 H =>
 ab t22 (some (.nilsl, H)) (pFa 3 t7 H fun t24 H =>
 ldK .none H t24 fun t25 H =>
 pO (aUn .not t25) H fun t26 H =>
 ae t26 false (pFa 2 t7 H fun t29 H =>
 ldK .none H t29 fun t30 H =>
 pC call GS [t1, t30] H fun t31 H =>
 sk call t0 t1 t2 t7 t9 t26 t31 H) (sk call t0 t1 t2 t7 t9 t26 U H))
def P5 (call : aa) (t0 t1 t2 t3 : AV) (H : AHeap) : R :=
 ba t3 H fun t7 H =>
 pFa 0 t7 H fun t10 H =>
 ldK .none H t10 fun t11 H =>
 pO (au (aG [(iN 0), (iN 0), (iN 0)] [(0, 1, t11), (1, 1, (iN 0)), (2, 1, (.int .i64 (.negSucc 0)))])) H fun t12 H =>
 pN (aM 3 1 [(iN 0), (iN 0), (iN 0)] [(0, 3, t12)]) H fun t13 H =>
 pFa 3 t7 H fun t15 H =>
 ldK .none H t15 fun t16 H =>
 pO (aUn .not t16) H fun t17 H =>
 ae t17 true (pFa 0 t7 H fun t19 H =>
 ldK .none H t19 fun t20 H =>
 aQ t20 (.int .i64 (.negSucc 0)) H fun t21 H =>
 sj call t0 t1 t2 t7 t13 t17 t21 H) (sj call t0 t1 t2 t7 t13 t17 U H)
def a4Z : Ff := ⟨fun call l H => dh (fun t0 t1 t2 t3 => P5 call t0 t1 t2 t3 H) l⟩
def X4 (_ : aa) (t0 : AV) (H : AHeap) : R :=
 pO (aEq false .sl t0 .nilsl) H fun t4 H =>
 ab t4 (some (.nilsl, H)) (pN (aM 1 0 [(iN 0)] []) H fun t5 H =>
 pW (bz 1 8 H t5 t0) fun t7 H =>
 some (t7, H))
def a4Y : Ff := ⟨fun call l H => az (fun t0 => X4 call t0 H) l⟩
def X2 (_ : aa) (t0 t1 : AV) (H : AHeap) : R :=
 pO (af t0) H fun t6 H =>
 pFa 5 t6 H fun t7 H =>
 ldK .none H t7 fun t8 H =>
 pO (gm .int (.bool false) false H t8 t1) H fun t10 H =>
 some (t10, H)
def a4X : Ff := ⟨fun call l H => ax (fun t0 t1 => X2 call t0 t1 H) l⟩
def Ja (_ : aa) (n : Nat) : AV → AV → AV → AHeap → R :=
 Nat.rec (motive := fun _ => AV → AV → AV → AHeap → R) (fun _ _ _ _ => none) (fun _ q0 t0 t3 t4 H => pO (aw .sl H t0) H fun t14 H =>
 aE t4 t14 H fun t15 H =>
 ab t15 (pIa 1 t0 t4 H fun t21 H =>
 ldK .none H t21 fun t22 H =>
 pO (eP false t3 t22) H fun t23 H =>
 ay t4 (iN 1) H fun t17 H =>
 q0 t0 t23 t17 H) (some (t3, H))) n
def J9 (call : aa) (t0 : AV) (H : AHeap) : R :=
 pIa 1 t0 (iN 0) H fun t10 H =>
 ldK .none H t10 fun t11 H =>
 Ja call 1000000 t0 t11 (iN 1) H
def X1 (call : aa) (t0 : AV) (H : AHeap) : R :=
 pO (aw .sl H t0) H fun t6 H =>
 aE t6 (iN 1) H fun t7 H =>
 ab t7 (none) (J9 call t0 H)
def a4W : Ff := ⟨fun call l H => az (fun t0 => X1 call t0 H) l⟩
def AE (_ : aa) (t8 t13 : AV) (H : AHeap) : R :=
 ai t8 (.bool true) t13 H fun t14 H =>
 some (t14, H)
def X0 (call : aa) (t0 : AV) (H : AHeap) : R :=
 pO (af t0) H fun t4 H =>
 pFa 4 t4 H fun t5 H =>
 ldK .none H t5 fun t6 H =>
 aj t6 (iN 1) H fun t7 H =>
 ae t7 false (pO (af t0) H fun t10 H =>
 pFa 4 t10 H fun t11 H =>
 ldK .none H t11 fun t12 H =>
 aj t12 (iN 2) H fun t13 H =>
 AE call t7 t13 H) (AE call t7 U H)
def a4V : Ff := ⟨fun call l H => az (fun t0 => X0 call t0 H) l⟩
def WZ (_ : aa) (t0 : AV) (H : AHeap) : R :=
 pO (af t0) H fun t6 H =>
 pFa 0 t6 H fun t7 H =>
 ldK .none H t7 fun t8 H =>
 pO (aw .sl H t8) H fun t9 H =>
 aj t9 (iN 0) H fun t10 H =>
 ab t10 (some (.tup [(iN 0), (.bool false)], H)) (pO (af t0) H fun t12 H =>
 pFa 0 t12 H fun t13 H =>
 ldK .none H t13 fun t14 H =>
 pIa 1 t14 (iN 0) H fun t15 H =>
 ldK .none H t15 fun t16 H =>
 pO (af t0) H fun t19 H =>
 pFa 0 t19 H fun t20 H =>
 ldK .none H t20 fun t21 H =>
 pO (bT 1 H t21 (.some (iN 1)) .none .none) H fun t22 H =>
 pO (af t0) H fun t23 H =>
 pFa 0 t23 H fun t24 H =>
 stK 1 H t24 t22 fun _ H =>
 some (.tup [t16, (.bool true)], H))
def a4U : Ff := ⟨fun call l H => az (fun t0 => WZ call t0 H) l⟩
def AD (_ : aa) (q0 : AV → AV → AV → AV → AV → AV → AV → AHeap → R) (t0 t1 t7 t8 t9 t58 t59 : AV) (H : AHeap) : R :=
 ay t59 (iN 1) H fun t86 H =>
 q0 t0 t1 t7 t8 t9 t58 t86 H
def AB (call : aa) (q0 : AV → AV → AV → AV → AV → AV → AV → AHeap → R) (t0 t1 t7 t8 t9 t11 t58 t59 t78 t80 : AV) (H : AHeap) : R :=
 ai t78 t80 (.bool false) H fun t81 H =>
 ab t81 (pN (aM 1 1 [(iN 0)] [(0, 1, t11)]) H fun t84 H =>
 pW (bz 1 8 H t9 t84) fun t85 H =>
 AD call q0 t0 t1 t7 t8 t85 t58 t59 H) (AD call q0 t0 t1 t7 t8 t9 t58 t59 H)
def si (call : aa) (n : Nat) : AV → AV → AV → AV → AV → AV → AV → AHeap → R :=
 Nat.rec (motive := fun _ => AV → AV → AV → AV → AV → AV → AV → AHeap → R) (fun _ _ _ _ _ _ _ _ => none) (fun _ q0 t0 t1 t7 t8 t9 t58 t59 H => aE t59 t58 H fun t60 H =>
 ab t60 (pO (af t0) H fun t64 H =>
 pFa 0 t64 H fun t65 H =>
 ldK .none H t65 fun t66 H =>
 ay t59 (iN 1) H fun t69 H =>
 pC call xi [t66, t1, t69] H fun t70 H =>
 ao t70 0 H fun t71 H =>
 ao t70 1 H fun _ H =>
 ldK (.some 3) H t8 fun t73 H =>
 pFa 0 t7 H fun t75 H =>
 ldK .none H t75 fun t76 H =>
 pC call a09 [t73, t59, t76] H fun t77 H =>
 ae t77 true (aQ t71 (iN 0) H fun t80 H =>
 AB call q0 t0 t1 t7 t8 t9 t71 t58 t59 t77 t80 H) (AB call q0 t0 t1 t7 t8 t9 t71 t58 t59 t77 U H)) (some (t9, H))) n
def AA (call : aa) (t0 t1 t7 t31 t42 : AV) (H : AHeap) : R :=
 ai t31 (.bool true) t42 H fun t43 H =>
 ab t43 (some (.nilsl, H)) (pO (af t0) H fun t46 H =>
 pFa 1 t46 H fun t47 H =>
 ldK .none H t47 fun t48 H =>
 pFa 2 t7 H fun t49 H =>
 ldK .none H t49 fun t50 H =>
 aB [(iN 0), (iN 0), (.int .u64 (.ofNat 0))] H fun t8 H =>
 pC call Sj [t48, t50] H fun t51 H =>
 ao t51 0 H fun t52 H =>
 ao t51 1 H fun t53 H =>
 stK 3 H t8 t52 fun _ H =>
 aQ t53 (iN 0) H fun t55 H =>
 ab t55 (some (.nilsl, H)) (pFa 0 t7 H fun t56 H =>
 ldK .none H t56 fun t57 H =>
 db t57 (iN 1) H fun t58 H =>
 si call 1000000 t0 t1 t7 t8 .nilsl t58 (iN 0) H))
def Az (call : aa) (t0 t1 t7 t31 t32 t33 t41 : AV) (H : AHeap) : R :=
 aR (aA (gdB t31 false (ckV (ah .none H t32) t33)) true) (
 ae t31 false (dj t33 t41 H fun t42 H =>
 AA call t0 t1 t7 t31 t42 H) (AA call t0 t1 t7 t31 U H))
def Ay (call : aa) (t0 t1 t7 t31 t32 t33 t40 : AV) (H : AHeap) : R :=
 aR (aA (gdB t31 false (ckV (ah .none H t32) t33)) true) (
 ae t31 false (pC call kJ [t40] H fun t41 H =>
 Az call t0 t1 t7 t31 t32 t33 t41 H) (Az call t0 t1 t7 t31 t32 t33 U H))
def Ax (call : aa) (t0 t1 t7 t31 t32 t33 t36 t37 t39 : AV) (H : AHeap) : R :=
 aR (aA (gdB t31 false (ckV (ah .none H t32) t33)) (aA (gdB t31 false (ckV (ah .none H t36) t37)) true)) (
 ae t31 false (pC call lK [t37, t39] H fun t40 H =>
 Ay call t0 t1 t7 t31 t32 t33 t40 H) (Ay call t0 t1 t7 t31 t32 t33 U H))
def Aw (call : aa) (t0 t1 t7 t31 t32 t33 t36 t37 t38 : AV) (H : AHeap) : R :=
 ae t31 false (pC call LK [t38] H fun t39 H =>
 Ax call t0 t1 t7 t31 t32 t33 t36 t37 t39 H) (Ax call t0 t1 t7 t31 t32 t33 t36 t37 U H)
def Av (call : aa) (t0 t1 t7 t31 t32 t33 t36 t37 : AV) (H : AHeap) : R :=
 ae t31 false (Aw call t0 t1 t7 t31 t32 t33 t36 t37 t1 H) (Aw call t0 t1 t7 t31 t32 t33 t36 t37 U H)
def Au (call : aa) (t0 t1 t7 t31 t32 t33 t36 : AV) (H : AHeap) : R :=
 ae t31 false (ldK .none H t36 fun t37 H =>
 Av call t0 t1 t7 t31 t32 t33 t36 t37 H) (Av call t0 t1 t7 t31 t32 t33 t36 U H)
def sh (call : aa) (t0 t1 t7 t31 t32 t33 t35 : AV) (H : AHeap) : R :=
 ae t31 false (pFa 0 t35 H fun t36 H =>
 Au call t0 t1 t7 t31 t32 t33 t36 H) (Au call t0 t1 t7 t31 t32 t33 U H)
def sg (call : aa) (t0 t1 t7 t31 t32 t33 t34 : AV) (H : AHeap) : R :=
 ae t31 false (pO (af t34) H fun t35 H =>
 sh call t0 t1 t7 t31 t32 t33 t35 H) (sh call t0 t1 t7 t31 t32 t33 U H)
def sf (call : aa) (t0 t1 t7 t31 t32 t33 : AV) (H : AHeap) : R :=
 ae t31 false (sg call t0 t1 t7 t31 t32 t33 t0 H) (sg call t0 t1 t7 t31 t32 t33 U H)
def sd (call : aa) (t0 t1 t7 t31 t32 : AV) (H : AHeap) : R :=
 ae t31 false (ldK .none H t32 fun t33 H =>
 sf call t0 t1 t7 t31 t32 t33 H) (sf call t0 t1 t7 t31 t32 U H)
def OY (call : aa) (t0 t1 : AV) (H : AHeap) : R :=
 pO (af t0) H fun t15 H =>
 pFa 0 t15 H fun t16 H =>
 ldK .none H t16 fun t17 H =>
 pC call xi [t17, t1, (iN 0)] H fun t19 H =>
 ao t19 0 H fun t20 H =>
 ao t19 1 H fun t21 H =>
 aQ t21 (iN 0) H fun t23 H =>
 ab t23 (some (.nilsl, H)) (pC call Sk [t20] H fun t26 H =>
 ao t26 0 H fun t27 H =>
 ao t26 1 H fun t28 H =>
 aB [(iN 0), (iN 0), (iN 0)] H fun t7 H =>
 stK 3 H t7 t27 fun _ H =>
 aQ t28 (iN 0) H fun t30 H =>
 ae t30 false (pFa 0 t7 H fun t32 H =>
 sd call t0 t1 t7 t30 t32 H) (sd call t0 t1 t7 t30 U H))
def a4T : Ff := ⟨fun call l H => ax (fun t0 t1 => OY call t0 t1 H) l⟩
def WY (call : aa) (t0 t1 : AV) (H : AHeap) : R :=
 pO (af t0) H fun t6 H =>
 pFa 0 t6 H fun t7 H =>
 ldK .none H t7 fun t8 H =>
 pC call Si [t8, t1] H fun t10 H =>
 pO (aUn .not t10) H fun t11 H =>
 ab t11 (some ((.bool false), H)) (pO (af t0) H fun t13 H =>
 pFa 2 t13 H fun t14 H =>
 ldK .none H t14 fun t15 H =>
 pC call a08 [t15, t1] H fun _ H =>
 some ((.bool true), H))
def a4S : Ff := ⟨fun call l H => ax (fun t0 t1 => WY call t0 t1 H) l⟩
def WX (call : aa) (t0 t1 : AV) (H : AHeap) : R :=
 pC call Sh [t0, t1] H fun t7 H =>
 pO (aUn .not t7) H fun t8 H =>
 ab t8 (some ((.int .i64 (.negSucc 0)), H)) (pO (af t0) H fun t10 H =>
 pFa 1 t10 H fun t11 H =>
 ldK .none H t11 fun t12 H =>
 pIa 3 t12 t1 H fun t14 H =>
 pFa 0 t14 H fun t15 H =>
 ldK .none H t15 fun t16 H =>
 some (t16, H))
def a4R : Ff := ⟨fun call l H => ax (fun t0 t1 => WX call t0 t1 H) l⟩
def WW (call : aa) (t0 t1 : AV) (H : AHeap) : R :=
 pO (af t0) H fun t5 H =>
 pFa 0 t5 H fun t6 H =>
 ldK .none H t6 fun t7 H =>
 pC call a07 [t7, t1] H fun _ H =>
 pO (af t0) H fun t11 H =>
 pFa 1 t11 H fun t12 H =>
 ldK .none H t12 fun t13 H =>
 pIa 1 t13 t1 H fun t15 H =>
 stK 1 H t15 (.bool false) fun _ H =>
 some (.tup [], H)
def a4Q : Ff := ⟨fun call l H => ax (fun t0 t1 => WW call t0 t1 H) l⟩
def WV (call : aa) (t0 : AV) (H : AHeap) : R :=
 pC call a06 [t0] H fun t4 H =>
 some (t4, H)
def a4P : Ff := ⟨fun call l H => az (fun t0 => WV call t0 H) l⟩
def WU (call : aa) (t0 t1 : AV) (H : AHeap) : R :=
 pC call lK [t0, t1] H fun t7 H =>
 aj t7 (.int .i64 (.negSucc 0)) H fun t8 H =>
 ab t8 (some ((.int .u64 (.ofNat 0)), H)) (pO (af t0) H fun t10 H =>
 pFa 1 t10 H fun t11 H =>
 ldK .none H t11 fun t12 H =>
 pIa 3 t12 t1 H fun t14 H =>
 pFa 1 t14 H fun t15 H =>
 ldK .none H t15 fun t16 H =>
 some (t16, H))
def a4O : Ff := ⟨fun call l H => ax (fun t0 t1 => WU call t0 t1 H) l⟩
def As (_ : aa) (t0 t5 t7 : AV) (H : AHeap) : R :=
 ai t5 (.bool true) t7 H fun t8 H =>
 ab t8 (some ((iN 0), H)) (aU .u64 t0 H fun t10 H =>
 pO (aW .shl (iN 2) t10) H fun t11 H =>
 some (t11, H))
def WS (call : aa) (t0 : AV) (H : AHeap) : R :=
 aE t0 (iN 0) H fun t4 H =>
 ae t4 false (aZ t0 (iN 6) H fun t7 H =>
 As call t0 t4 t7 H) (As call t0 t4 U H)
def a4M : Ff := ⟨fun call l H => az (fun t0 => WS call t0 H) l⟩
def WR (call : aa) (t0 t1 : AV) (H : AHeap) : R :=
 pO (af t0) H fun t5 H =>
 pFa 2 t5 H fun t6 H =>
 ldK .none H t6 fun t7 H =>
 pO (af t0) H fun t9 H =>
 pFa 3 t9 H fun t10 H =>
 pFa 1 t10 H fun t11 H =>
 ldK .none H t11 fun t12 H =>
 pC call GR [t7, t12, t1] H fun _ H =>
 pC call xk [t0] H fun _ H =>
 some (.tup [], H)
def a4L : Ff := ⟨fun call l H => ax (fun t0 t1 => WR call t0 t1 H) l⟩
def WQ (_ : aa) (t0 : AV) (H : AHeap) : R :=
 ab t0 (some ((iN 1), H)) (some ((iN 0), H))
def a4K : Ff := ⟨fun call l H => az (fun t0 => WQ call t0 H) l⟩
def WO (call : aa) (t0 t1 : AV) (H : AHeap) : R :=
 pC call F6 [t0] H fun t6 H =>
 pO (aEq true .ptr t6 .nilp) H fun t8 H =>
 ab t8 (pO (af t6) H fun t11 H =>
 pFa 1 t11 H fun t12 H =>
 stK 1 H t12 t1 fun _ H =>
 some (.tup [], H)) (some (.tup [], H))
def a4J : Ff := ⟨fun call l H => ax (fun t0 t1 => WO call t0 t1 H) l⟩
def WN (call : aa) (t0 t1 t2 : AV) (H : AHeap) : R :=
 aj t0 (iN 3) H fun t10 H =>
 ab t10 (pC call a05 [t1, t2] H fun t13 H =>
 some (.tup [t13, (.bool true)], H)) (aj t0 (iN 4) H fun t15 H =>
 ab t15 (pC call a04 [t1, t2] H fun t18 H =>
 some (.tup [t18, (.bool true)], H)) (aj t0 (iN 5) H fun t20 H =>
 ab t20 (pC call a03 [t1, t2] H fun t23 H =>
 some (.tup [t23, (.bool true)], H)) (aj t0 (iN 6) H fun t25 H =>
 ab t25 (pC call a77 [t1, t2] H fun t28 H =>
 ao t28 0 H fun t29 H =>
 ao t28 1 H fun t30 H =>
 some (.tup [t29, t30], H)) (aj t0 (iN 7) H fun t32 H =>
 ab t32 (pC call a76 [t1, t2] H fun t35 H =>
 ao t35 0 H fun t36 H =>
 ao t35 1 H fun t37 H =>
 some (.tup [t36, t37], H)) (aj t0 (iN 8) H fun t39 H =>
 ab t39 (dG t1 t2 H fun t42 H =>
 pC call vB [t42] H fun t43 H =>
 some (.tup [t43, (.bool true)], H)) (aj t0 (iN 9) H fun t45 H =>
 ab t45 (pOr t1 t2 H fun t48 H =>
 pC call vB [t48] H fun t49 H =>
 some (.tup [t49, (.bool true)], H)) (aj t0 (iN 10) H fun t51 H =>
 ab t51 (wZ t1 t2 H fun t54 H =>
 pC call vB [t54] H fun t55 H =>
 some (.tup [t55, (.bool true)], H)) (aj t0 (iN 11) H fun t57 H =>
 ab t57 (pC call a75 [t1, t2] H fun t60 H =>
 some (.tup [t60, (.bool true)], H)) (aj t0 (iN 12) H fun t62 H =>
 ab t62 (pC call a74 [t1, t2] H fun t65 H =>
 some (.tup [t65, (.bool true)], H)) (aj t0 (iN 13) H fun t67 H =>
 ab t67 (aE t1 t2 H fun t70 H =>
 pC call F3 [t70] H fun t71 H =>
 some (.tup [t71, (.bool true)], H)) (aj t0 (iN 14) H fun t73 H =>
 ab t73 (dv t1 t2 H fun t76 H =>
 pC call F3 [t76] H fun t77 H =>
 some (.tup [t77, (.bool true)], H)) (aj t1 t2 H fun t80 H =>
 pC call F3 [t80] H fun t81 H =>
 some (.tup [t81, (.bool true)], H)))))))))))))
def a4I : Ff := ⟨fun call l H => aY (fun t0 t1 t2 => WN call t0 t1 t2 H) l⟩
def WM (call : aa) (t0 t1 t2 : AV) (H : AHeap) : R :=
 pO (af t0) H fun t7 H =>
 pFa 2 t7 H fun t8 H =>
 ldK .none H t8 fun t9 H =>
 pO (af t0) H fun t11 H =>
 pFa 0 t11 H fun t12 H =>
 ldK .none H t12 fun t13 H =>
 pO (af t13) H fun t14 H =>
 pFa 0 t14 H fun t15 H =>
 ldK (.some 6) H t15 fun t16 H =>
 pC call a02 [t9, t16, t1, t2] H fun t19 H =>
 aQ t19 (iN 0) H fun t20 H =>
 ab t20 (pO (af t0) H fun t22 H =>
 pFa 0 t22 H fun t23 H =>
 ldK .none H t23 fun t24 H =>
 pC call px [t24, (iN 6)] H fun _ H =>
 some (.tup [], H)) (some (.tup [], H))
def a4H : Ff := ⟨fun call l H => aY (fun t0 t1 t2 => WM call t0 t1 t2 H) l⟩
def J8 (call : aa) (n : Nat) : AV → AV → AV → AV → AV → AHeap → R :=
 Nat.rec (motive := fun _ => AV → AV → AV → AV → AV → AHeap → R) (fun _ _ _ _ _ _ => none) (fun _ q0 t0 t1 t7 t9 t10 H => aE t10 t9 H fun t11 H =>
 ab t11 (pO (af t0) H fun t15 H =>
 pFa 2 t15 H fun t16 H =>
 ldK .none H t16 fun t17 H =>
 ay t1 t10 H fun t20 H =>
 pC call cW [t17, t20] H fun t21 H =>
 pN (aM 1 1 [(iN 0)] [(0, 1, t21)]) H fun t22 H =>
 pW (bz 1 8 H t7 t22) fun t23 H =>
 ay t10 (iN 1) H fun t24 H =>
 q0 t0 t1 t23 t9 t24 H) (some (t7, H))) n
def a4G : Ff := ⟨fun call l H => aY (fun t0 t1 t2 => J8 call 1000000 t0 t1 .nilsl t2 (iN 0) H) l⟩
def Ar (call : aa) (t0 t3 : AV) (H : AHeap) : R :=
 pO (af t0) H fun t102 H =>
 pFa 2 t102 H fun t103 H =>
 ldK .none H t103 fun t104 H =>
 pFa 1 t3 H fun t105 H =>
 ldK .none H t105 fun t106 H =>
 ay t106 (iN 1) H fun t107 H =>
 pC call vz [t104, t107] H fun _ H =>
 some (.tup [], H)
def Aq (call : aa) (t0 t2 t3 t5 t88 t91 : AV) (H : AHeap) : R :=
 ai t88 t91 (.bool false) H fun t92 H =>
 ab t92 (pO (af t0) H fun t94 H =>
 pFa 2 t94 H fun t95 H =>
 ldK .none H t95 fun t96 H =>
 pFa 1 t5 H fun t97 H =>
 ldK .none H t97 fun t98 H =>
 pC call GR [t96, t98, t2] H fun _ H =>
 Ar call t0 t3 H) (Ar call t0 t3 H)
def WL (call : aa) (t0 : AV) (H : AHeap) : R :=
 pO (af t0) H fun t8 H =>
 pFa 2 t8 H fun t9 H =>
 ldK .none H t9 fun t10 H =>
 pO (af t0) H fun t12 H =>
 pFa 3 t12 H fun t13 H =>
 pFa 1 t13 H fun t14 H =>
 ldK .none H t14 fun t15 H =>
 pC call cW [t10, t15] H fun t16 H =>
 pO (af t0) H fun t18 H =>
 pFa 2 t18 H fun t19 H =>
 ldK .none H t19 fun t20 H =>
 pC call a01 [t20] H fun t21 H =>
 pO (aUn .not t21) H fun t22 H =>
 ab t22 (pO (af t0) H fun t24 H =>
 pFa 0 t24 H fun t25 H =>
 ldK .none H t25 fun t26 H =>
 pO (af t26) H fun t27 H =>
 pFa 7 t27 H fun t28 H =>
 ldK .none H t28 fun t29 H =>
 pO (af t0) H fun t31 H =>
 pFa 1 t31 H fun t32 H =>
 ldK .none H t32 fun t33 H =>
 pC call a00 [t29, t33] H fun _ H =>
 pO (af t0) H fun t36 H =>
 pFa 0 t36 H fun t37 H =>
 ldK .none H t37 fun t38 H =>
 pO (af t38) H fun t39 H =>
 pFa 6 t39 H fun t40 H =>
 ldK .none H t40 fun t41 H =>
 pO (af t0) H fun t44 H =>
 pFa 1 t44 H fun t45 H =>
 ldK .none H t45 fun t46 H =>
 pC call n62 [t41] H fun t42 H =>
 aR (aA (ckV (ah .none H t45) t46) true) (
 pC call ZZ [t42, t46] H fun _ H =>
 pO (af t0) H fun t49 H =>
 pFa 1 t49 H fun t50 H =>
 ldK .none H t50 fun t51 H =>
 aj t51 (iN 1) H fun t52 H =>
 ab t52 (pO (af t0) H fun t54 H =>
 pFa 0 t54 H fun t55 H =>
 ldK .none H t55 fun t56 H =>
 pO (af t56) H fun t57 H =>
 pFa 11 t57 H fun t58 H =>
 stK 1 H t58 (iN 1) fun _ H =>
 some (.tup [], H)) (some (.tup [], H)))) (pO (af t0) H fun t61 H =>
 pFa 2 t61 H fun t62 H =>
 ldK .none H t62 fun t63 H =>
 pC call H4 [t63] H fun t64 H =>
 ao t64 0 H fun t65 H =>
 ao t64 1 H fun _ H =>
 aB [(iN 0), (iN 0), .nilsl] H fun t3 H =>
 stK 3 H t3 t65 fun _ H =>
 pO (af t0) H fun t69 H =>
 pFa 2 t69 H fun t70 H =>
 ldK .none H t70 fun t71 H =>
 pO (af t0) H fun t73 H =>
 pFa 0 t73 H fun t74 H =>
 ldK .none H t74 fun t75 H =>
 pO (af t75) H fun t76 H =>
 pFa 0 t76 H fun t77 H =>
 ldK (.some 6) H t77 fun t78 H =>
 aB [(iN 0), (iN 0), (iN 0), (iN 0), (iN 0)] H fun t5 H =>
 pC call H5 [t71, t78] H fun t79 H =>
 ao t79 0 H fun t80 H =>
 ao t79 1 H fun _ H =>
 stK 5 H t5 t80 fun _ H =>
 pO (af t0) H fun t83 H =>
 pFa 3 t83 H fun t84 H =>
 pFa 1 t84 H fun t85 H =>
 ldK .none H t85 fun t86 H =>
 aQ t86 (.int .i64 (.negSucc 0)) H fun t87 H =>
 ae t87 true (pFa 1 t5 H fun t89 H =>
 ldK .none H t89 fun t90 H =>
 aQ t90 (.int .i64 (.negSucc 0)) H fun t91 H =>
 Aq call t0 t16 t3 t5 t87 t91 H) (Aq call t0 t16 t3 t5 t87 U H))
def a4F : Ff := ⟨fun call l H => az (fun t0 => WL call t0 H) l⟩
def Ap (call : aa) (t0 t2 t10 t11 t12 : AV) (H : AHeap) : R :=
 aQ t12 (iN 0) H fun t76 H =>
 ab t76 (some (.tup [(iN 0), t12], H)) (pO (af t0) H fun t80 H =>
 pFa 0 t80 H fun t81 H =>
 ldK .none H t81 fun t82 H =>
 ldK (.some 3) H t10 fun t84 H =>
 pC call n97 [t82] H fun t83 H =>
 aR (aA (ckV (ah (.some 3) H t10) t84) true) (
 pC call n98 [t83, t84] H fun t85 H =>
 ao t85 0 H fun t86 H =>
 ao t85 1 H fun _ H =>
 pFa 0 t10 H fun t90 H =>
 ldK .none H t90 fun t91 H =>
 pO (au (aG [(iN 0), (iN 0), (iN 0)] [(0, 1, t2), (1, 1, t91), (2, 1, t86)])) H fun t93 H =>
 pC call ZY [t93] H fun t94 H =>
 ao t94 0 H fun t95 H =>
 ao t94 1 H fun t96 H =>
 aQ t96 (iN 0) H fun t98 H =>
 ab t98 (some (.tup [(iN 0), t96], H)) (pO (af t0) H fun t101 H =>
 pFa 0 t101 H fun t102 H =>
 ldK .none H t102 fun t103 H =>
 pC call vw [t103] H fun t104 H =>
 pC call LI [t104, t11, (iN 0), t95] H fun _ H =>
 some (.tup [t11, (iN 0)], H))))
def Ao (call : aa) (t0 t1 t2 t3 t31 t33 : AV) (H : AHeap) : R :=
 ai t31 (.bool true) t33 H fun t34 H =>
 ab t34 (some (.tup [(iN 0), (iN 1)], H)) (pO (af t0) H fun t36 H =>
 pFa 1 t36 H fun t37 H =>
 ldK .none H t37 fun t38 H =>
 pIa 3 t38 t1 H fun t40 H =>
 ldK (.some 3) H t40 fun t41 H =>
 aB [(iN 0), (iN 0), (.int .u64 (.ofNat 0))] H fun t10 H =>
 stK 3 H t10 t41 fun _ H =>
 pO (af t0) H fun t44 H =>
 pFa 0 t44 H fun t45 H =>
 ldK .none H t45 fun t46 H =>
 pC call Sg [t46, t2] H fun t48 H =>
 ao t48 0 H fun t49 H =>
 ao t48 1 H fun t50 H =>
 aj t50 (iN 5) H fun t52 H =>
 ab t52 (pO (af t0) H fun t54 H =>
 pFa 0 t54 H fun t55 H =>
 ldK .none H t55 fun t56 H =>
 pC call a73 [t56, t3] H fun _ H =>
 pO (af t0) H fun t60 H =>
 pFa 2 t60 H fun t61 H =>
 ldK .none H t61 fun t62 H =>
 ay t62 (iN 1) H fun t63 H =>
 pO (af t0) H fun t64 H =>
 pFa 2 t64 H fun t65 H =>
 stK 1 H t65 t63 fun _ H =>
 pO (af t0) H fun t68 H =>
 pFa 0 t68 H fun t69 H =>
 ldK .none H t69 fun t70 H =>
 pC call Sg [t70, t2] H fun t72 H =>
 ao t72 0 H fun t73 H =>
 ao t72 1 H fun t74 H =>
 Ap call t0 t2 t10 t73 t74 H) (Ap call t0 t2 t10 t49 t50 H))
def An (call : aa) (t0 t1 t2 t3 t27 t29 : AV) (H : AHeap) : R :=
 ai t27 (.bool true) t29 H fun t30 H =>
 ae t30 false (dj t2 (iN 64) H fun t33 H =>
 Ao call t0 t1 t2 t3 t30 t33 H) (Ao call t0 t1 t2 t3 t30 U H)
def Am (call : aa) (t0 t1 t2 t3 t18 t25 : AV) (H : AHeap) : R :=
 ai t18 (.bool true) t25 H fun t26 H =>
 ae t26 false (aE t2 (iN 1) H fun t29 H =>
 An call t0 t1 t2 t3 t26 t29 H) (An call t0 t1 t2 t3 t26 U H)
def WK (call : aa) (t0 t1 t2 t3 : AV) (H : AHeap) : R :=
 aE t1 (iN 0) H fun t17 H =>
 ae t17 false (pO (af t0) H fun t21 H =>
 pFa 1 t21 H fun t22 H =>
 ldK .none H t22 fun t23 H =>
 pO (aw .sl H t23) H fun t24 H =>
 aZ t1 t24 H fun t25 H =>
 Am call t0 t1 t2 t3 t17 t25 H) (Am call t0 t1 t2 t3 t17 U H)
def a4E : Ff := ⟨fun call l H => dh (fun t0 t1 t2 t3 => WK call t0 t1 t2 t3 H) l⟩
def Al (call : aa) (t0 t1 t2 t3 t15 t17 : AV) (H : AHeap) : R :=
 ai t15 (.bool true) t17 H fun t18 H =>
 ab t18 (some (.tup [(iN 0), (iN 5), (iN 0)], H)) (ay t2 (iN 5) H fun t23 H =>
 pC call LO [t0, t1, t23, t3] H fun t25 H =>
 ao t25 0 H fun t26 H =>
 ao t25 1 H fun t27 H =>
 aQ t27 (iN 0) H fun t29 H =>
 ab t29 (some (.tup [(iN 0), (iN 0), t27], H)) (pC call vu [t0, t26, (iN 0), t2] H fun _ H =>
 some (.tup [t26, (iN 0), (iN 0)], H)))
def WJ (call : aa) (t0 t1 t2 t3 : AV) (H : AHeap) : R :=
 aE t2 (iN 0) H fun t14 H =>
 ae t14 false (dj t2 (iN 59) H fun t17 H =>
 Al call t0 t1 t2 t3 t14 t17 H) (Al call t0 t1 t2 t3 t14 U H)
def a4D : Ff := ⟨fun call l H => dh (fun t0 t1 t2 t3 => WJ call t0 t1 t2 t3 H) l⟩
def WI (_ : aa) (t0 t1 : AV) (H : AHeap) : R :=
 pO (af t0) H fun t6 H =>
 pFa 8 t6 H fun t7 H =>
 pFa 4 t7 H fun t8 H =>
 ldK .none H t8 fun t9 H =>
 pIa 1 t9 t1 H fun t11 H =>
 ldK .none H t11 fun t12 H =>
 some (t12, H)
def a4C : Ff := ⟨fun call l H => ax (fun t0 t1 => WI call t0 t1 H) l⟩
def WH (call : aa) (t0 t1 t2 t3 : AV) (H : AHeap) : R :=
 pC call Sf [t0, t1, t2, t3] H fun t17 H =>
 aQ t17 (iN 0) H fun t19 H =>
 ab t19 (some (.tup [(iN 0), t17], H)) (pO (af t0) H fun t23 H =>
 pFa 0 t23 H fun t24 H =>
 ldK .none H t24 fun t25 H =>
 pC call vw [t25] H fun t26 H =>
 ay t2 (iN 1) H fun t29 H =>
 pC call xi [t26, t1, t29] H fun t30 H =>
 ao t30 0 H fun t31 H =>
 ao t30 1 H fun _ H =>
 some (.tup [t31, (iN 0)], H))
def a4B : Ff := ⟨fun call l H => dh (fun t0 t1 t2 t3 => WH call t0 t1 t2 t3 H) l⟩
def Ak (call : aa) (t6 t24 t25 t26 t27 t29 t30 : AV) (H : AHeap) : R :=
 ai t29 t30 (.bool false) H fun t31 H =>
 pC call ZX [t24, t25, t26, t27, t31, t6] H fun _ H =>
 some ((iN 0), H)
def WG (call : aa) (t0 t1 t2 t3 t4 t5 t6 : AV) (H : AHeap) : R :=
 pC call Sf [t0, t1, t2, t4] H fun t20 H =>
 aQ t20 (iN 0) H fun t22 H =>
 ab t22 (some (t20, H)) (ae t4 true (Ak call t6 t0 t1 t2 t3 t4 t5 H) (Ak call t6 t0 t1 t2 t3 t4 U H))
def a4A : Ff := ⟨fun call l H => nS (fun t0 t1 t2 t3 t4 t5 t6 => WG call t0 t1 t2 t3 t4 t5 t6 H) l⟩
def Aj (_ : aa) (t6 t18 t21 : AV) (H : AHeap) : R :=
 ai t18 (.bool true) t21 H fun t22 H =>
 ab t22 (some (.tup [(iN 0), (iN 1)], H)) (pFa 0 t6 H fun t23 H =>
 ldK .none H t23 fun t24 H =>
 db t24 (iN 1) H fun t25 H =>
 some (.tup [t25, (iN 0)], H))
def WE (call : aa) (t0 t1 : AV) (H : AHeap) : R :=
 pC call LJ [t0, t1] H fun t12 H =>
 ao t12 0 H fun t13 H =>
 ao t12 1 H fun t14 H =>
 ao t12 2 H fun t15 H =>
 aB [(iN 0), (iN 0), (iN 0)] H fun t6 H =>
 aB [(iN 0), (iN 0), (.int .u64 (.ofNat 0))] H fun t7 H =>
 stK 3 H t6 t13 fun _ H =>
 stK 3 H t7 t14 fun _ H =>
 pO (aUn .not t15) H fun t17 H =>
 ae t17 false (pFa 1 t6 H fun t19 H =>
 ldK .none H t19 fun t20 H =>
 aQ t20 (iN 1) H fun t21 H =>
 Aj call t6 t17 t21 H) (Aj call t6 t17 U H)
def a4z : Ff := ⟨fun call l H => ax (fun t0 t1 => WE call t0 t1 H) l⟩
def Ai (call : aa) (t0 t2 t26 t36 : AV) (H : AHeap) : R :=
 ai t26 t36 (.bool false) H fun t37 H =>
 ab t37 (pO (af t0) H fun t39 H =>
 pFa 0 t39 H fun t40 H =>
 ldK .none H t40 fun t41 H =>
 pC call px [t41, (iN 1)] H fun _ H =>
 some (.tup [], H)) (pO (af t0) H fun t45 H =>
 pFa 0 t45 H fun t46 H =>
 ldK .none H t46 fun t47 H =>
 pO (af t47) H fun t48 H =>
 pFa 6 t48 H fun t49 H =>
 ldK .none H t49 fun t50 H =>
 pC call ZW [t50, t2] H fun t52 H =>
 pO (aUn .not t52) H fun t53 H =>
 ab t53 (pO (af t0) H fun t55 H =>
 pFa 0 t55 H fun t56 H =>
 ldK .none H t56 fun t57 H =>
 pC call px [t57, (iN 4)] H fun _ H =>
 some (.tup [], H)) (pC call xk [t0] H fun _ H =>
 some (.tup [], H)))
def WD (call : aa) (t0 : AV) (H : AHeap) : R :=
 pO (af t0) H fun t4 H =>
 pFa 2 t4 H fun t5 H =>
 ldK .none H t5 fun t6 H =>
 pO (af t0) H fun t8 H =>
 pFa 3 t8 H fun t9 H =>
 pFa 1 t9 H fun t10 H =>
 ldK .none H t10 fun t11 H =>
 pC call cW [t6, t11] H fun t12 H =>
 pO (af t0) H fun t17 H =>
 pFa 0 t17 H fun t18 H =>
 ldK .none H t18 fun t19 H =>
 pO (af t19) H fun t20 H =>
 pFa 6 t20 H fun t21 H =>
 ldK .none H t21 fun t22 H =>
 pC call qR [t22, t12, (.bool true)] H fun t24 H =>
 pO (aUn .not t24) H fun t25 H =>
 ae t25 true (pO (af t0) H fun t28 H =>
 pFa 0 t28 H fun t29 H =>
 ldK .none H t29 fun t30 H =>
 pO (af t30) H fun t31 H =>
 pFa 6 t31 H fun t32 H =>
 ldK .none H t32 fun t33 H =>
 pC call qR [t33, t12, (.bool false)] H fun t35 H =>
 pO (aUn .not t35) H fun t36 H =>
 Ai call t0 t12 t25 t36 H) (Ai call t0 t12 t25 U H)
def a4y : Ff := ⟨fun call l H => az (fun t0 => WD call t0 H) l⟩
def pd (_ : aa) (t6 t11 : AV) (H : AHeap) : R :=
 ldK (.some 6) H t11 fun t80 H =>
 stK 6 H t6 t80 fun _ H =>
 ob (aD (fun o => o) [ah (.some 6) H t6]) fun vs => some (aV vs, H)
def WC (call : aa) (t0 t1 t2 : AV) (H : AHeap) : R :=
 aB [.nilp, (.bool false), (iN 0), (iN 0), (iN 0), (iN 0)] H fun t6 H =>
 pC call H4 [t1] H fun t15 H =>
 ao t15 0 H fun t16 H =>
 ao t15 1 H fun _ H =>
 aB [(iN 0), (iN 0), .nilsl] H fun t7 H =>
 stK 3 H t7 t16 fun _ H =>
 pO (af t0) H fun t21 H =>
 pFa 0 t21 H fun t22 H =>
 ldK (.some 6) H t22 fun t23 H =>
 pC call H5 [t1, t23] H fun t24 H =>
 ao t24 0 H fun t25 H =>
 ao t24 1 H fun _ H =>
 aB [(iN 0), (iN 0), (iN 0), (iN 0), (iN 0)] H fun t9 H =>
 stK 5 H t9 t25 fun _ H =>
 pFa 1 t7 H fun t28 H =>
 ldK .none H t28 fun t29 H =>
 ay t29 (iN 1) H fun t30 H =>
 pO (au (aG [.nilp, (.bool false), (iN 0), (iN 0), (iN 0), (iN 0)] [(0, 1, t1), (4, 1, (.int .i64 (.negSucc 0))), (5, 1, t30)])) H fun t31 H =>
 aB [.nilp, (.bool false), (iN 0), (iN 0), (iN 0), (iN 0)] H fun t11 H =>
 stK 6 H t11 t31 fun _ H =>
 pFa 0 t9 H fun t32 H =>
 ldK .none H t32 fun t33 H =>
 aj t33 (iN 38) H fun t35 H =>
 ab t35 (pFa 1 t9 H fun t36 H =>
 ldK .none H t36 fun t37 H =>
 pFa 2 t9 H fun t38 H =>
 ldK .none H t38 fun t39 H =>
 pFa 1 t11 H fun t40 H =>
 stK 1 H t40 (.bool true) fun _ H =>
 aR (aA (ckV (ah .none H t36) t37) (aA (ckV (ah .none H t38) t39) true)) (
 pFa 2 t11 H fun t41 H =>
 stK 1 H t41 t37 fun _ H =>
 aR (aA (ckV (ah .none H t38) t39) true) (
 pFa 3 t11 H fun t42 H =>
 stK 1 H t42 t39 fun _ H =>
 pd call t6 t11 H))) (aj t33 (iN 39) H fun t44 H =>
 ab t44 (pFa 2 t9 H fun t45 H =>
 ldK .none H t45 fun t46 H =>
 pFa 1 t9 H fun t47 H =>
 ldK .none H t47 fun t48 H =>
 pFa 3 t9 H fun t49 H =>
 ldK .none H t49 fun t50 H =>
 pFa 2 t11 H fun t51 H =>
 stK 1 H t51 t46 fun _ H =>
 aR (aA (ckV (ah .none H t47) t48) (aA (ckV (ah .none H t49) t50) true)) (
 pFa 3 t11 H fun t52 H =>
 stK 1 H t52 t48 fun _ H =>
 aR (aA (ckV (ah .none H t49) t50) true) (
 pFa 4 t11 H fun t53 H =>
 stK 1 H t53 t50 fun _ H =>
 pd call t6 t11 H))) (aj t33 (iN 41) H fun t55 H =>
 ab t55 (pO (af t0) H fun t57 H =>
 pFa 0 t57 H fun t58 H =>
 pFa 3 t58 H fun t59 H =>
 ldK .none H t59 fun t60 H =>
 pFa 1 t9 H fun t61 H =>
 ldK .none H t61 fun t62 H =>
 ay t62 t2 H fun t64 H =>
 pIa 4 t60 t64 H fun t65 H =>
 ldK (.some 4) H t65 fun t66 H =>
 aB [(iN 0), (iN 0), (iN 0), (iN 0)] H fun t12 H =>
 stK 4 H t12 t66 fun _ H =>
 pFa 0 t12 H fun t67 H =>
 ldK .none H t67 fun t68 H =>
 aj t68 (iN 1) H fun t69 H =>
 pFa 1 t12 H fun t70 H =>
 ldK .none H t70 fun t71 H =>
 pFa 2 t12 H fun t72 H =>
 ldK .none H t72 fun t73 H =>
 pFa 3 t12 H fun t74 H =>
 ldK .none H t74 fun t75 H =>
 pFa 1 t11 H fun t76 H =>
 stK 1 H t76 t69 fun _ H =>
 aR (aA (ckV (ah .none H t70) t71) (aA (ckV (ah .none H t72) t73) (aA (ckV (ah .none H t74) t75) true))) (
 pFa 2 t11 H fun t77 H =>
 stK 1 H t77 t71 fun _ H =>
 aR (aA (ckV (ah .none H t72) t73) (aA (ckV (ah .none H t74) t75) true)) (
 pFa 3 t11 H fun t78 H =>
 stK 1 H t78 t73 fun _ H =>
 aR (aA (ckV (ah .none H t74) t75) true) (
 pFa 5 t11 H fun t79 H =>
 stK 1 H t79 t75 fun _ H =>
 pd call t6 t11 H)))) (pd call t6 t11 H)))
def a4x : Ff := ⟨fun call l H => aY (fun t0 t1 t2 => WC call t0 t1 t2 H) l⟩
def Ah (_ : aa) (t23 t32 : AV) (H : AHeap) : R :=
 ai t23 (.bool true) t32 H fun t33 H =>
 some (t33, H)
def WB (call : aa) (t0 t1 : AV) (H : AHeap) : R :=
 ba t1 H fun t3 H =>
 pFa 0 t3 H fun t6 H =>
 ldK .none H t6 fun t7 H =>
 pFa 2 t3 H fun t8 H =>
 ldK .none H t8 fun t9 H =>
 pC call cW [t7, t9] H fun t10 H =>
 pFa 3 t3 H fun t11 H =>
 ldK .none H t11 fun t12 H =>
 aj t12 (.int .i64 (.negSucc 0)) H fun t13 H =>
 ab t13 (pO (af t0) H fun t15 H =>
 pFa 0 t15 H fun t16 H =>
 ldK .none H t16 fun t17 H =>
 pO (af t17) H fun t18 H =>
 pFa 6 t18 H fun t19 H =>
 ldK .none H t19 fun t20 H =>
 pC call qR [t20, t10, (.bool true)] H fun t22 H =>
 ae t22 false (pO (af t0) H fun t25 H =>
 pFa 0 t25 H fun t26 H =>
 ldK .none H t26 fun t27 H =>
 pO (af t27) H fun t28 H =>
 pFa 6 t28 H fun t29 H =>
 ldK .none H t29 fun t30 H =>
 pC call qR [t30, t10, (.bool false)] H fun t32 H =>
 Ah call t22 t32 H) (Ah call t22 U H)) (pO (af t0) H fun t35 H =>
 pFa 0 t35 H fun t36 H =>
 ldK .none H t36 fun t37 H =>
 pO (af t37) H fun t38 H =>
 pFa 6 t38 H fun t39 H =>
 ldK .none H t39 fun t40 H =>
 pFa 3 t3 H fun t43 H =>
 ldK .none H t43 fun t44 H =>
 pC call F2 [t0, t44] H fun t45 H =>
 aR (aA (ckV (ah .none H t36) t37) (aA (ckV (ah .none H t39) t40) true)) (
 pC call qR [t40, t10, t45] H fun t46 H =>
 some (t46, H)))
def a4w : Ff := ⟨fun call l H => ax (fun t0 t1 => WB call t0 t1 H) l⟩
def WA (call : aa) (t0 t1 : AV) (H : AHeap) : R :=
 ba t1 H fun t3 H =>
 pO (af t0) H fun t6 H =>
 pFa 2 t6 H fun t7 H =>
 ldK .none H t7 fun t8 H =>
 pFa 2 t3 H fun t9 H =>
 ldK .none H t9 fun t10 H =>
 pC call cW [t8, t10] H fun t11 H =>
 pO (af t0) H fun t13 H =>
 pFa 0 t13 H fun t14 H =>
 ldK .none H t14 fun t15 H =>
 pO (af t15) H fun t16 H =>
 pFa 6 t16 H fun t17 H =>
 ldK .none H t17 fun t18 H =>
 pC call GS [t18, t11] H fun t20 H =>
 ab t20 (pO (af t0) H fun t22 H =>
 pFa 0 t22 H fun t23 H =>
 ldK .none H t23 fun t24 H =>
 pC call px [t24, (iN 4)] H fun _ H =>
 some (.tup [], H)) (pO (af t0) H fun t27 H =>
 pFa 0 t27 H fun t28 H =>
 ldK .none H t28 fun t29 H =>
 pO (af t29) H fun t30 H =>
 pFa 6 t30 H fun t31 H =>
 ldK .none H t31 fun t32 H =>
 pO (af t0) H fun t35 H =>
 pFa 2 t35 H fun t36 H =>
 ldK .none H t36 fun t37 H =>
 pFa 3 t3 H fun t38 H =>
 ldK .none H t38 fun t39 H =>
 pO (af t0) H fun t42 H =>
 pFa 1 t42 H fun t43 H =>
 ldK .none H t43 fun t44 H =>
 pC call cW [t37, t39] H fun t40 H =>
 aR (aA (ckV (ah .none H t28) t29) (aA (ckV (ah .none H t31) t32) (aA (ckV (ah .none H t43) t44) true))) (
 pC call ZV [t32, t11, t40, t44] H fun _ H =>
 pO (af t0) H fun t47 H =>
 pFa 2 t47 H fun t48 H =>
 ldK .none H t48 fun t49 H =>
 pFa 5 t3 H fun t50 H =>
 ldK .none H t50 fun t51 H =>
 pC call vz [t49, t51] H fun _ H =>
 some (.tup [], H)))
def a4v : Ff := ⟨fun call l H => ax (fun t0 t1 => WA call t0 t1 H) l⟩
def Ag (call : aa) (t0 t1 t6 t7 t8 : AV) (H : AHeap) : R :=
 pC call vu [t0, t1, t7, (iN 0)] H fun _ H =>
 ay t6 (iN 1) H fun t52 H =>
 pC call vx [t0, t1] H fun t55 H =>
 pO (aW .rem t52 t55) H fun t56 H =>
 pC call vu [t0, t1, (iN 2), t56] H fun _ H =>
 pC call vy [t0, t1] H fun t62 H =>
 db t62 (iN 1) H fun t63 H =>
 pC call vu [t0, t1, (iN 1), t63] H fun _ H =>
 some (.tup [t8, (.bool true)], H)
def Af (call : aa) (t0 t1 t15 t19 : AV) (H : AHeap) : R :=
 ai t15 (.bool true) t19 H fun t20 H =>
 ab t20 (some (.tup [(iN 0), (.bool false)], H)) (pC call vt [t0, t1, (iN 2)] H fun t23 H =>
 pC call vx [t0, t1] H fun t27 H =>
 pO (aW .rem t23 t27) H fun t28 H =>
 ay (iN 4) t28 H fun t29 H =>
 pC call vt [t0, t1, t29] H fun t33 H =>
 pC call xg [t0, t1] H fun t37 H =>
 ao t37 0 H fun _ H =>
 ao t37 1 H fun t39 H =>
 ab t39 (pC call n62 [t0] H fun t42 H =>
 pC call LN [t42, t33, (iN 0), (.int .i64 (.negSucc 0))] H fun _ H =>
 Ag call t0 t1 t23 t29 t33 H) (Ag call t0 t1 t23 t29 t33 H))
def Wz (call : aa) (t0 t1 : AV) (H : AHeap) : R :=
 pC call vy [t0, t1] H fun t13 H =>
 aE t13 (iN 1) H fun t14 H =>
 ae t14 false (pC call vx [t0, t1] H fun t18 H =>
 aE t18 (iN 1) H fun t19 H =>
 Af call t0 t1 t14 t19 H) (Af call t0 t1 t14 U H)
def a4u : Ff := ⟨fun call l H => ax (fun t0 t1 => Wz call t0 t1 H) l⟩
def Ae (call : aa) (t3 : AV) (H : AHeap) : R :=
 pFa 0 t3 H fun t25 H =>
 ldK .none H t25 fun t26 H =>
 pFa 5 t3 H fun t27 H =>
 ldK .none H t27 fun t28 H =>
 pC call vz [t26, t28] H fun _ H =>
 some (.tup [], H)
def Ad (call : aa) (t2 t3 : AV) (H : AHeap) : R :=
 pFa 4 t3 H fun t15 H =>
 ldK .none H t15 fun t16 H =>
 aQ t16 (.int .i64 (.negSucc 0)) H fun t17 H =>
 ab t17 (pFa 0 t3 H fun t18 H =>
 ldK .none H t18 fun t19 H =>
 pFa 4 t3 H fun t20 H =>
 ldK .none H t20 fun t21 H =>
 pC call F3 [t2] H fun t23 H =>
 aR (aA (ckV (ah .none H t18) t19) (aA (ckV (ah .none H t20) t21) true)) (
 pC call GR [t19, t21, t23] H fun _ H =>
 Ae call t3 H)) (Ae call t3 H)
def Wy (call : aa) (t0 t1 t2 : AV) (H : AHeap) : R :=
 ba t0 H fun t3 H =>
 pFa 3 t3 H fun t6 H =>
 ldK .none H t6 fun t7 H =>
 aQ t7 (.int .i64 (.negSucc 0)) H fun t8 H =>
 ab t8 (pFa 0 t3 H fun t9 H =>
 ldK .none H t9 fun t10 H =>
 pFa 3 t3 H fun t11 H =>
 ldK .none H t11 fun t12 H =>
 pC call GR [t10, t12, t1] H fun _ H =>
 Ad call t2 t3 H) (Ad call t2 t3 H)
def a4t : Ff := ⟨fun call l H => aY (fun t0 t1 t2 => Wy call t0 t1 t2 H) l⟩
def Ac (_ : aa) (t7 t14 : AV) (H : AHeap) : R :=
 ai t7 t14 (.bool false) H fun t15 H =>
 some (t15, H)
def Wx (call : aa) (t0 t1 : AV) (H : AHeap) : R :=
 aZ t1 (iN 0) H fun t6 H =>
 ae t6 true (pO (af t0) H fun t10 H =>
 pFa 6 t10 H fun t11 H =>
 pFa 2 t11 H fun t12 H =>
 ldK .none H t12 fun t13 H =>
 aE t1 t13 H fun t14 H =>
 Ac call t6 t14 H) (Ac call t6 U H)
def a4s : Ff := ⟨fun call l H => ax (fun t0 t1 => Wx call t0 t1 H) l⟩
def Aa (_ : aa) (t9 t31 : AV) (H : AHeap) : R :=
 ai t9 (.bool true) t31 H fun t32 H =>
 some (t32, H)
def A9 (call : aa) (t9 t21 t30 : AV) (H : AHeap) : R :=
 ae t9 false (ai t21 t30 (.bool false) H fun t31 H =>
 Aa call t9 t31 H) (Aa call t9 U H)
def A8 (call : aa) (t0 t1 t2 t9 t21 : AV) (H : AHeap) : R :=
 ae t21 true (pO (af t0) H fun t24 H =>
 pFa 6 t24 H fun t25 H =>
 pFa 2 t25 H fun t26 H =>
 ldK .none H t26 fun t27 H =>
 db t27 t2 H fun t29 H =>
 dv t1 t29 H fun t30 H =>
 A9 call t9 t21 t30 H) (A9 call t9 t21 U H)
def A7 (call : aa) (t0 t1 t2 t9 t12 t19 : AV) (H : AHeap) : R :=
 ae t9 false (ai t12 t19 (.bool false) H fun t20 H =>
 A8 call t0 t1 t2 t9 t20 H) (A8 call t0 t1 t2 t9 U H)
def A6 (call : aa) (t0 t1 t2 t9 t12 : AV) (H : AHeap) : R :=
 ae t12 true (pO (af t0) H fun t15 H =>
 pFa 6 t15 H fun t16 H =>
 pFa 2 t16 H fun t17 H =>
 ldK .none H t17 fun t18 H =>
 dv t2 t18 H fun t19 H =>
 A7 call t0 t1 t2 t9 t12 t19 H) (A7 call t0 t1 t2 t9 t12 U H)
def Ww (call : aa) (t0 t1 t2 : AV) (H : AHeap) : R :=
 dv t2 (iN 0) H fun t8 H =>
 ae t8 false (aZ t1 (iN 0) H fun t11 H =>
 A6 call t0 t1 t2 t8 t11 H) (A6 call t0 t1 t2 t8 U H)
def a4r : Ff := ⟨fun call l H => aY (fun t0 t1 t2 => Ww call t0 t1 t2 H) l⟩
def Wv (call : aa) (t0 t1 : AV) (H : AHeap) : R :=
 pC call a0i [t0, t1] H fun t10 H =>
 ao t10 0 H fun t11 H =>
 ao t10 1 H fun _ H =>
 aB [(iN 0), (iN 0), (iN 0), (iN 0), .nilsl, .nilsl, .nilsl] H fun t5 H =>
 stK 7 H t5 t11 fun _ H =>
 pFa 0 t5 H fun t13 H =>
 ldK .none H t13 fun t14 H =>
 some (t14, H)
def a4q : Ff := ⟨fun call l H => ax (fun t0 t1 => Wv call t0 t1 H) l⟩
def A5 (_ : aa) (t0 t1 t4 t8 t16 : AV) (H : AHeap) : R :=
 ai t8 (.bool true) t16 H fun t17 H =>
 ab t17 (pO (au (aG [(iN 0), (iN 0), (iN 0), (iN 0), .nilsl, .nilsl, .nilsl] [])) H fun t18 H =>
 stK 7 H t4 t18 fun _ H =>
 ob (aD (fun o => o) [ah (.some 7) H t4, some (.bool false)]) fun vs => some (aV vs, H)) (pO (af t0) H fun t20 H =>
 pFa 0 t20 H fun t21 H =>
 pFa 4 t21 H fun t22 H =>
 ldK .none H t22 fun t23 H =>
 pIa 7 t23 t1 H fun t25 H =>
 ldK (.some 7) H t25 fun t26 H =>
 stK 7 H t4 t26 fun _ H =>
 ob (aD (fun o => o) [ah (.some 7) H t4, some (.bool true)]) fun vs => some (aV vs, H))
def Wu (call : aa) (t0 t1 : AV) (H : AHeap) : R :=
 aB [(iN 0), (iN 0), (iN 0), (iN 0), .nilsl, .nilsl, .nilsl] H fun t4 H =>
 aE t1 (iN 0) H fun t7 H =>
 ae t7 false (pO (af t0) H fun t11 H =>
 pFa 0 t11 H fun t12 H =>
 pFa 4 t12 H fun t13 H =>
 ldK .none H t13 fun t14 H =>
 pO (aw .sl H t14) H fun t15 H =>
 aZ t1 t15 H fun t16 H =>
 A5 call t0 t1 t4 t7 t16 H) (A5 call t0 t1 t4 t7 U H)
def a4p : Ff := ⟨fun call l H => ax (fun t0 t1 => Wu call t0 t1 H) l⟩
def Wt (call : aa) (t0 t1 : AV) (H : AHeap) : R :=
 pC call Sw [t0, t1] H fun t7 H =>
 aZ t7 (iN 0) H fun t8 H =>
 some (t8, H)
def a4o : Ff := ⟨fun call l H => ax (fun t0 t1 => Wt call t0 t1 H) l⟩
def Wr (call : aa) (t0 t1 : AV) (H : AHeap) : R :=
 ldK .none H t1 fun t4 H =>
 pC call a0j [t4, t0] H fun t6 H =>
 pO (aUn .not t6) H fun t7 H =>
 some (t7, H)
def a4m : Ff := ⟨fun call l H => ax (fun t0 t1 => Wr call t0 t1 H) l⟩
def Wq (call : aa) (t0 t1 t2 : AV) (H : AHeap) : R :=
 ba t0 H fun t3 H =>
 ba t1 H fun t4 H =>
 pC call a0h [t2, (.fn ZU [] [t3, t4])] H fun t9 H =>
 pO (aUn .not t9) H fun t10 H =>
 some (t10, H)
def a4l : Ff := ⟨fun call l H => aY (fun t0 t1 t2 => Wq call t0 t1 t2 H) l⟩
def J6 (_ : aa) (n : Nat) : AV → AV → AV → AV → AHeap → R :=
 Nat.rec (motive := fun _ => AV → AV → AV → AV → AHeap → R) (fun _ _ _ _ _ => none) (fun _ q0 t3 t36 t37 t38 H => aE t38 t37 H fun t39 H =>
 ab t39 (pIa 4 t36 t38 H fun t40 H =>
 ldK (.some 4) H t40 fun t41 H =>
 aB [(iN 0), (iN 0), (iN 0), (iN 0)] H fun t7 H =>
 stK 4 H t7 t41 fun _ H =>
 pFa 3 t7 H fun t43 H =>
 ldK .none H t43 fun t44 H =>
 pN (aM 1 1 [(iN 0)] [(0, 1, t44)]) H fun t45 H =>
 pW (bz 1 8 H t3 t45) fun t46 H =>
 ay t38 (iN 1) H fun t47 H =>
 q0 t46 t36 t37 t47 H) (some (t3, H))) n
def Wp (call : aa) (t0 : AV) (H : AHeap) : R :=
 pO (af t0) H fun t9 H =>
 pFa 17 t9 H fun t10 H =>
 pFa 0 t10 H fun t11 H =>
 ldK .none H t11 fun t12 H =>
 aj t12 (iN 18) H fun t14 H =>
 ab t14 (pO (af t0) H fun t16 H =>
 pFa 17 t16 H fun t17 H =>
 pFa 1 t17 H fun t18 H =>
 ldK .none H t18 fun t19 H =>
 pN (aM 1 1 [(iN 0)] [(0, 1, t19)]) H fun t20 H =>
 some (t20, H)) (aj t12 (iN 19) H fun t22 H =>
 ab t22 (pO (af t0) H fun t24 H =>
 pFa 17 t24 H fun t25 H =>
 pFa 2 t25 H fun t26 H =>
 ldK .none H t26 fun t27 H =>
 pN (aM 1 1 [(iN 0)] [(0, 1, t27)]) H fun t28 H =>
 some (t28, H)) (aj t12 (iN 41) H fun t30 H =>
 ab t30 (pC call a7m [t0] H fun t33 H =>
 ao t33 0 H fun t34 H =>
 ao t33 1 H fun _ H =>
 pO (aw .sl H t34) H fun t37 H =>
 J6 call 1000000 .nilsl t34 t37 (iN 0) H) (some (.nilsl, H))))
def a4k : Ff := ⟨fun call l H => az (fun t0 => Wp call t0 H) l⟩
def J5 (_ : aa) (n : Nat) : AV → AV → AV → AV → AHeap → R :=
 Nat.rec (motive := fun _ => AV → AV → AV → AV → AHeap → R) (fun _ _ _ _ _ => none) (fun _ q0 t0 t1 t7 t8 H => aE t8 t7 H fun t9 H =>
 ab t9 (pIa 1 t0 t8 H fun t14 H =>
 ldK .none H t14 fun t15 H =>
 aj t1 t15 H fun t16 H =>
 ab t16 (some (t8, H)) (ay t8 (iN 1) H fun t18 H =>
 q0 t0 t1 t7 t18 H)) (some ((.int .i64 (.negSucc 0)), H))) n
def Wo (call : aa) (t0 t1 : AV) (H : AHeap) : R :=
 pO (aw .sl H t0) H fun t7 H =>
 J5 call 1000000 t0 t1 t7 (iN 0) H
def a4j : Ff := ⟨fun call l H => ax (fun t0 t1 => Wo call t0 t1 H) l⟩
def Wn (call : aa) (t0 : AV) (H : AHeap) : R :=
 pO (af t0) H fun t3 H =>
 pFa 2 t3 H fun t4 H =>
 ldK .none H t4 fun t5 H =>
 ay t5 (iN 1) H fun t6 H =>
 pO (af t0) H fun t7 H =>
 pFa 2 t7 H fun t8 H =>
 stK 1 H t8 t6 fun _ H =>
 pO (af t0) H fun t10 H =>
 pFa 2 t10 H fun t11 H =>
 ldK .none H t11 fun t12 H =>
 dj t12 (iN 60) H fun t13 H =>
 ab t13 (pC call SG [t0, (iN 2)] H fun _ H =>
 some (.tup [], H)) (some (.tup [], H))
def a4i : Ff := ⟨fun call l H => az (fun t0 => Wn call t0 H) l⟩
def Wm (call : aa) (t0 t1 : AV) (H : AHeap) : R :=
 pC call Sy [t0, t1] H fun t8 H =>
 pO (aUn .not t8) H fun t9 H =>
 ab t9 (some (.tup [t0, (.bool false)], H)) (pO (aw .str H t1) H fun t13 H =>
 pO (cJ t0 (.some t13) .none) H fun t14 H =>
 some (.tup [t14, (.bool true)], H))
def a4h : Ff := ⟨fun call l H => ax (fun t0 t1 => Wm call t0 t1 H) l⟩
def Wl (_ : aa) (t0 : AV) (H : AHeap) : R :=
 aB [(.str []), (.str []), (iN 0), .nilsl] H fun t2 H =>
 pO (au (aG [(.str []), (.str []), (iN 0), .nilsl] [(0, 1, t0)])) H fun t4 H =>
 stK 4 H t2 t4 fun _ H =>
 ob (aD (fun o => o) [ah (.some 4) H t2]) fun vs => some (aV vs, H)
def a4g : Ff := ⟨fun call l H => az (fun t0 => Wl call t0 H) l⟩
def A4 (call : aa) (t3 t4 t8 t59 t64 t68 : AV) (H : AHeap) : R :=
 ai t64 t68 (.bool false) H fun t69 H =>
 ldK (.some 4) H t3 fun t70 H =>
 pC call n33 [t59, t69, t70] H fun _ H =>
 ldK (.some 4) H t8 fun t72 H =>
 stK 4 H t4 t72 fun _ H =>
 ob (aD (fun o => o) [ah (.some 4) H t4]) fun vs => some (aV vs, H)
def pc (call : aa) (t0 t3 t4 t5 t6 t7 t8 : AV) (H : AHeap) : R :=
 pFa 0 t5 H fun t60 H =>
 ldK .none H t60 fun t61 H =>
 aj t61 t7 H fun t63 H =>
 ae t63 true (pFa 0 t6 H fun t65 H =>
 ldK .none H t65 fun t66 H =>
 aj t66 t7 H fun t68 H =>
 A4 call t3 t4 t8 t0 t63 t68 H) (A4 call t3 t4 t8 t0 t63 U H)
def A3 (call : aa) (t0 t3 t4 t5 t6 t7 t8 t49 : AV) (H : AHeap) : R :=
 ab t49 (ldK (.some 4) H t5 fun t53 H =>
 ldK (.some 4) H t6 fun t54 H =>
 ldK (.some 4) H t3 fun t56 H =>
 pC call a0L [t53, t54] H fun t55 H =>
 aR (aA (ckV (ah (.some 4) H t3) t56) true) (
 pC call n33 [t0, t55, t56] H fun _ H =>
 pC call GV [(.str [98, 111, 111, 108])] H fun t58 H =>
 stK 4 H t4 t58 fun _ H =>
 ob (aD (fun o => o) [ah (.some 4) H t4]) fun vs => some (aV vs, H))) (pFa 2 t3 H fun t25 H =>
 ldK .none H t25 fun t26 H =>
 pC call n77 [t0, t26] H fun _ H =>
 pc call t0 t3 t4 t5 t6 t7 t8 H)
def A2 (call : aa) (t0 t3 t4 t5 t6 t7 t8 t23 t45 : AV) (H : AHeap) : R :=
 ab t45 (pC call GV [(.str [98, 111, 111, 108])] H fun t48 H =>
 stK 4 H t8 t48 fun _ H =>
 pc call t0 t3 t4 t5 t6 (.str [98, 111, 111, 108]) t8 H) (aj t23 (.str [61, 61]) H fun t50 H =>
 ab t50 (A3 call t0 t3 t4 t5 t6 t7 t8 t50 H) (aj t23 (.str [33, 61]) H fun t51 H =>
 A3 call t0 t3 t4 t5 t6 t7 t8 t51 H))
def pa (call : aa) (t0 t3 t4 t5 t6 t7 t8 t23 t39 : AV) (H : AHeap) : R :=
 ab t39 (pC call GV [(.str [98, 111, 111, 108])] H fun t44 H =>
 stK 4 H t8 t44 fun _ H =>
 pc call t0 t3 t4 t5 t6 t7 t8 H) (aj t23 (.str [38, 38]) H fun t46 H =>
 ab t46 (A2 call t0 t3 t4 t5 t6 t7 t8 t23 t46 H) (aj t23 (.str [124, 124]) H fun t47 H =>
 A2 call t0 t3 t4 t5 t6 t7 t8 t23 t47 H))
def eB (call : aa) (t0 t3 t4 t5 t6 t7 t8 t23 t28 : AV) (H : AHeap) : R :=
 ab t28 (pc call t0 t3 t4 t5 t6 t7 t8 H) (aj t23 (.str [60]) H fun t40 H =>
 ab t40 (pa call t0 t3 t4 t5 t6 t7 t8 t23 t40 H) (aj t23 (.str [60, 61]) H fun t41 H =>
 ab t41 (pa call t0 t3 t4 t5 t6 t7 t8 t23 t41 H) (aj t23 (.str [62]) H fun t42 H =>
 ab t42 (pa call t0 t3 t4 t5 t6 t7 t8 t23 t42 H) (aj t23 (.str [62, 61]) H fun t43 H =>
 pa call t0 t3 t4 t5 t6 t7 t8 t23 t43 H))))
def Wj (call : aa) (t0 t1 : AV) (H : AHeap) : R :=
 ba t1 H fun t3 H =>
 aB [(.str []), (.str []), (iN 0), .nilsl] H fun t4 H =>
 pFa 3 t3 H fun t10 H =>
 ldK .none H t10 fun t11 H =>
 pIa 4 t11 (iN 0) H fun t12 H =>
 ldK (.some 4) H t12 fun t13 H =>
 pFa 3 t3 H fun t16 H =>
 ldK .none H t16 fun t17 H =>
 pIa 4 t17 (iN 1) H fun t18 H =>
 ldK (.some 4) H t18 fun t19 H =>
 aB [(.str []), (.str []), (iN 0), .nilsl] H fun t5 H =>
 aB [(.str []), (.str []), (iN 0), .nilsl] H fun t6 H =>
 pC call GW [t0, t13] H fun t14 H =>
 aR (aA (ckV (ah .none H t16) t17) (aA (ckV (ah (.some 4) H t18) t19) true)) (
 pC call GW [t0, t19] H fun t20 H =>
 stK 4 H t5 t14 fun _ H =>
 stK 4 H t6 t20 fun _ H =>
 pC call GV [(.str [105, 110, 116])] H fun t21 H =>
 aB [(.str []), (.str []), (iN 0), .nilsl] H fun t8 H =>
 stK 4 H t8 t21 fun _ H =>
 pFa 1 t3 H fun t22 H =>
 ldK .none H t22 fun t23 H =>
 aj t23 (.str [43]) H fun t29 H =>
 ab t29 (eB call t0 t3 t4 t5 t6 (.str [105, 110, 116]) t8 t23 t29 H) (aj t23 (.str [45]) H fun t30 H =>
 ab t30 (eB call t0 t3 t4 t5 t6 (.str [105, 110, 116]) t8 t23 t30 H) (aj t23 (.str [42]) H fun t31 H =>
 ab t31 (eB call t0 t3 t4 t5 t6 (.str [105, 110, 116]) t8 t23 t31 H) (aj t23 (.str [47]) H fun t32 H =>
 ab t32 (eB call t0 t3 t4 t5 t6 (.str [105, 110, 116]) t8 t23 t32 H) (aj t23 (.str [37]) H fun t33 H =>
 ab t33 (eB call t0 t3 t4 t5 t6 (.str [105, 110, 116]) t8 t23 t33 H) (aj t23 (.str [38]) H fun t34 H =>
 ab t34 (eB call t0 t3 t4 t5 t6 (.str [105, 110, 116]) t8 t23 t34 H) (aj t23 (.str [124]) H fun t35 H =>
 ab t35 (eB call t0 t3 t4 t5 t6 (.str [105, 110, 116]) t8 t23 t35 H) (aj t23 (.str [94]) H fun t36 H =>
 ab t36 (eB call t0 t3 t4 t5 t6 (.str [105, 110, 116]) t8 t23 t36 H) (aj t23 (.str [60, 60]) H fun t37 H =>
 ab t37 (eB call t0 t3 t4 t5 t6 (.str [105, 110, 116]) t8 t23 t37 H) (aj t23 (.str [62, 62]) H fun t38 H =>
 eB call t0 t3 t4 t5 t6 (.str [105, 110, 116]) t8 t23 t38 H))))))))))
def a4e : Ff := ⟨fun call l H => ax (fun t0 t1 => Wj call t0 t1 H) l⟩
def Wi (call : aa) (t0 : AV) (H : AHeap) : R :=
 pC call a6Z [t0, (iN 10), (iN 64)] H fun t7 H =>
 ao t7 0 H fun t8 H =>
 ao t7 1 H fun _ H =>
 some (t8, H)
def a4d : Ff := ⟨fun call l H => az (fun t0 => Wi call t0 H) l⟩
def A1 (call : aa) (t0 t7 t9 : AV) (H : AHeap) : R :=
 pN (aM 1 2 [(iN 0)] [(0, 1, t7), (1, 1, t9)]) H fun t82 H =>
 pC call F5 [t0, t82] H fun _ H =>
 some (.tup [], H)
def oZ (call : aa) (t0 t2 t4 t7 t9 t10 : AV) (H : AHeap) : R :=
 ldK (.some 5) H t10 fun t69 H =>
 pC call n86 [t0, t69] H fun _ H =>
 pFa 1 t4 H fun t71 H =>
 ldK .none H t71 fun t72 H =>
 aj t72 (.str [33, 61]) H fun t73 H =>
 ab t73 (pO (au (aG [(iN 0), (iN 0), (iN 0), (iN 0), (iN 0)] [(0, 1, (iN 17)), (1, 1, t2), (2, 1, t2)])) H fun t77 H =>
 pC call n86 [t0, t77] H fun _ H =>
 A1 call t0 t7 t9 H) (A1 call t0 t7 t9 H)
def A0 (call : aa) (t0 t2 t4 t6 t7 t9 t10 t57 : AV) (H : AHeap) : R :=
 ab t57 (pO (af t0) H fun t61 H =>
 pFa 2 t61 H fun t62 H =>
 ldK .none H t62 fun t63 H =>
 pIa 1 t63 t6 H fun t65 H =>
 ldK .none H t65 fun t66 H =>
 ab t66 (pFa 0 t10 H fun t67 H =>
 stK 1 H t67 (iN 16) fun _ H =>
 oZ call t0 t2 t4 t7 t9 t10 H) (oZ call t0 t2 t4 t7 t9 t10 H)) (oZ call t0 t2 t4 t7 t9 t10 H)
def zZ (call : aa) (t0 t2 t4 t6 t7 t8 t9 t10 t49 t50 : AV) (H : AHeap) : R :=
 ab t50 (pFa 2 t10 H fun t55 H =>
 stK 1 H t55 t8 fun _ H =>
 pFa 3 t10 H fun t56 H =>
 stK 1 H t56 t6 fun _ H =>
 oZ call t0 t2 t4 t7 t9 t10 H) (aj t49 (.str [61, 61]) H fun t58 H =>
 ab t58 (A0 call t0 t2 t4 t6 t7 t9 t10 t58 H) (aj t49 (.str [33, 61]) H fun t59 H =>
 A0 call t0 t2 t4 t6 t7 t9 t10 t59 H))
def zY (call : aa) (t0 t2 t4 t14 t17 : AV) (H : AHeap) : R :=
 ai t14 (.bool true) t17 H fun t18 H =>
 ab t18 (ldK (.some 4) H t4 fun t20 H =>
 pC call ZT [t0, t20, t2] H fun _ H =>
 some (.tup [], H)) (pFa 3 t4 H fun t25 H =>
 ldK .none H t25 fun t26 H =>
 pIa 4 t26 (iN 0) H fun t27 H =>
 ldK (.some 4) H t27 fun t28 H =>
 pC call pw [t0, t28] H fun t29 H =>
 ao t29 0 H fun t30 H =>
 ao t29 1 H fun t31 H =>
 pFa 3 t4 H fun t34 H =>
 ldK .none H t34 fun t35 H =>
 pIa 4 t35 (iN 1) H fun t36 H =>
 ldK (.some 4) H t36 fun t37 H =>
 pC call pw [t0, t37] H fun t38 H =>
 ao t38 0 H fun t39 H =>
 ao t38 1 H fun t40 H =>
 pFa 1 t4 H fun t41 H =>
 ldK .none H t41 fun t42 H =>
 pC call ZS [t42] H fun t43 H =>
 pO (au (aG [(iN 0), (iN 0), (iN 0), (iN 0), (iN 0)] [(0, 1, t43), (1, 1, t2), (2, 1, t30), (3, 1, t39)])) H fun t47 H =>
 aB [(iN 0), (iN 0), (iN 0), (iN 0), (iN 0)] H fun t10 H =>
 stK 5 H t10 t47 fun _ H =>
 pFa 1 t4 H fun t48 H =>
 ldK .none H t48 fun t49 H =>
 aj t49 (.str [62]) H fun t51 H =>
 ab t51 (zZ call t0 t2 t4 t30 t31 t39 t40 t10 t49 t51 H) (aj t49 (.str [62, 61]) H fun t52 H =>
 zZ call t0 t2 t4 t30 t31 t39 t40 t10 t49 t52 H))
def Wh (call : aa) (t0 t1 t2 : AV) (H : AHeap) : R :=
 ba t1 H fun t4 H =>
 pFa 1 t4 H fun t11 H =>
 ldK .none H t11 fun t12 H =>
 aj t12 (.str [38, 38]) H fun t13 H =>
 ae t13 false (pFa 1 t4 H fun t15 H =>
 ldK .none H t15 fun t16 H =>
 aj t16 (.str [124, 124]) H fun t17 H =>
 zY call t0 t2 t4 t13 t17 H) (zY call t0 t2 t4 t13 U H)
def a4c : Ff := ⟨fun call l H => aY (fun t0 t1 t2 => Wh call t0 t1 t2 H) l⟩
def Wg (call : aa) (t0 t1 t2 : AV) (H : AHeap) : R :=
 ba t2 H fun t5 H =>
 pC call n36 [t0, t1] H fun t9 H =>
 pC call n75 [t9, (.fn ZR [] [t5])] H fun t11 H =>
 some (t11, H)
def a4b : Ff := ⟨fun call l H => aY (fun t0 t1 t2 => Wg call t0 t1 t2 H) l⟩
def We (call : aa) (t0 t1 : AV) (H : AHeap) : R :=
 ba t1 H fun t3 H =>
 ldK (.some 4) H t3 fun t9 H =>
 pC call pw [t0, t9] H fun t10 H =>
 ao t10 0 H fun t11 H =>
 ao t10 1 H fun t12 H =>
 pN (aM 1 1 [(iN 0)] [(0, 1, t12)]) H fun t15 H =>
 pC call F5 [t0, t15] H fun _ H =>
 pC call pq [t0] H fun t20 H =>
 ay t20 (iN 2) H fun t21 H =>
 pO (au (aG [(iN 0), (iN 0), (iN 0), (iN 0), (iN 0)] [(0, 1, (iN 19)), (1, 1, t11), (2, 1, t21)])) H fun t22 H =>
 pC call n86 [t0, t22] H fun _ H =>
 pO (au (aG [(iN 0), (iN 0), (iN 0), (iN 0), (iN 0)] [(0, 1, (iN 18))])) H fun t25 H =>
 pC call n86 [t0, t25] H fun t26 H =>
 some (t26, H)
def a49 : Ff := ⟨fun call l H => ax (fun t0 t1 => We call t0 t1 H) l⟩
def Wd (_ : aa) (t0 : AV) (H : AHeap) : R :=
 pO (af t0) H fun t4 H =>
 pFa 4 t4 H fun t5 H =>
 ldK .none H t5 fun t6 H =>
 pO (aw .sl H t6) H fun t7 H =>
 some (t7, H)
def a48 : Ff := ⟨fun call l H => az (fun t0 => Wd call t0 H) l⟩
def zX (call : aa) (t0 t3 t18 t26 : AV) (H : AHeap) : R :=
 ai t18 (.bool true) t26 H fun t27 H =>
 ab t27 (some ((.int .i64 (.negSucc 0)), H)) (pO (af t0) H fun t29 H =>
 pFa 0 t29 H fun t30 H =>
 ldK .none H t30 fun t31 H =>
 pFa 1 t3 H fun t32 H =>
 ldK .none H t32 fun t33 H =>
 pC call LM [t31, (.str [102, 117, 110, 99]), t33] H fun t34 H =>
 some (t34, H))
def zW (call : aa) (t0 t3 t18 t25 : AV) (H : AHeap) : R :=
 ae t18 false (aZ t25 (iN 0) H fun t26 H =>
 zX call t0 t3 t18 t26 H) (zX call t0 t3 t18 U H)
def zV (call : aa) (t0 t3 t18 t22 t24 : AV) (H : AHeap) : R :=
 ae t18 false (pC call LM [t22, (.str [103, 108, 111, 98, 97, 108]), t24] H fun t25 H =>
 zW call t0 t3 t18 t25 H) (zW call t0 t3 t18 U H)
def zU (call : aa) (t0 t3 t18 t22 t23 : AV) (H : AHeap) : R :=
 ae t18 false (ldK .none H t23 fun t24 H =>
 zV call t0 t3 t18 t22 t24 H) (zV call t0 t3 t18 t22 U H)
def zT (call : aa) (t0 t3 t18 t22 : AV) (H : AHeap) : R :=
 ae t18 false (pFa 1 t3 H fun t23 H =>
 zU call t0 t3 t18 t22 t23 H) (zU call t0 t3 t18 t22 U H)
def zS (call : aa) (t0 t3 t18 t21 : AV) (H : AHeap) : R :=
 ae t18 false (ldK .none H t21 fun t22 H =>
 zT call t0 t3 t18 t22 H) (zT call t0 t3 t18 U H)
def zR (call : aa) (t0 t3 t18 t20 : AV) (H : AHeap) : R :=
 ae t18 false (pFa 0 t20 H fun t21 H =>
 zS call t0 t3 t18 t21 H) (zS call t0 t3 t18 U H)
def zQ (call : aa) (t0 t3 t18 t19 : AV) (H : AHeap) : R :=
 ae t18 false (pO (af t19) H fun t20 H =>
 zR call t0 t3 t18 t20 H) (zR call t0 t3 t18 U H)
def Wc (call : aa) (t0 t1 : AV) (H : AHeap) : R :=
 ba t1 H fun t3 H =>
 pFa 0 t3 H fun t7 H =>
 ldK .none H t7 fun t8 H =>
 aQ t8 (.str [110, 97, 109, 101]) H fun t9 H =>
 ab t9 (some ((.int .i64 (.negSucc 0)), H)) (pFa 1 t3 H fun t12 H =>
 ldK .none H t12 fun t13 H =>
 pC call F1 [t0, t13] H fun t14 H =>
 ao t14 0 H fun t15 H =>
 ao t14 1 H fun t16 H =>
 aB [(.str []), (.str []), (.str []), (iN 0), .nilsl, (iN 0)] H fun t5 H =>
 stK 6 H t5 t15 fun _ H =>
 ae t16 false (zQ call t0 t3 t16 t0 H) (zQ call t0 t3 t16 U H))
def a47 : Ff := ⟨fun call l H => ax (fun t0 t1 => Wc call t0 t1 H) l⟩
def J3 (_ : aa) (t1 t5 : AV) (H : AHeap) : R :=
 pO (aw .sl H t1) H fun t60 H =>
 aj t60 (iN 0) H fun t61 H =>
 ab t61 (some ((iN 0), H)) (some (t5, H))
def zO (_ : aa) (q0 : AV → AV → AV → AV → AV → AV → AHeap → R) (t0 t1 t5 t6 t15 t16 t17 : AV) (H : AHeap) : R :=
 pO (af t0) H fun t51 H =>
 pFa 3 t51 H fun t52 H =>
 ldK .none H t52 fun t53 H =>
 ay t5 t6 H fun t56 H =>
 pIa 1 t53 t56 H fun t57 H =>
 stK 1 H t57 (.bool true) fun _ H =>
 ay t17 (iN 1) H fun t58 H =>
 q0 t0 t1 t5 t15 t16 t58 H
def zP (call : aa) (n : Nat) : AV → AV → AV → AV → AV → AV → AHeap → R :=
 Nat.rec (motive := fun _ => AV → AV → AV → AV → AV → AV → AHeap → R) (fun _ _ _ _ _ _ _ => none) (fun _ q0 t0 t1 t5 t15 t16 t17 H => aE t17 t16 H fun t18 H =>
 ab t18 (pIa 1 t15 t17 H fun t20 H =>
 ldK .none H t20 fun t21 H =>
 ay t5 t17 H fun t24 H =>
 pO (af t0) H fun t26 H =>
 pFa 2 t26 H fun t27 H =>
 ldK .none H t27 fun t28 H =>
 pO (aw .sl H t28) H fun t29 H =>
 aj t24 t29 H fun t30 H =>
 ab t30 (pO (af t0) H fun t34 H =>
 pFa 2 t34 H fun t35 H =>
 ldK .none H t35 fun t36 H =>
 pN (aM 1 1 [(.bool false)] [(0, 1, t21)]) H fun t38 H =>
 pO (af t0) H fun t41 H =>
 pFa 3 t41 H fun t42 H =>
 ldK .none H t42 fun t43 H =>
 pN (aM 1 1 [(.bool false)] [(0, 1, (.bool false))]) H fun t44 H =>
 pW (bz 1 1 H t36 t38) fun t39 H =>
 aR (aA (ckV (ah .none H t42) t43) true) (
 pW (bz 1 1 H t43 t44) fun t45 H =>
 pO (af t0) H fun t46 H =>
 pFa 2 t46 H fun t47 H =>
 stK 1 H t47 t39 fun _ H =>
 pO (af t0) H fun t48 H =>
 pFa 3 t48 H fun t49 H =>
 stK 1 H t49 t45 fun _ H =>
 zO call q0 t0 t1 t5 t17 t15 t16 t17 H)) (zO call q0 t0 t1 t5 t17 t15 t16 t17 H)) (J3 call t1 t5 H)) n
def J2 (call : aa) (t0 t1 t5 : AV) (H : AHeap) : R :=
 pO (aw .sl H t1) H fun t16 H =>
 zP call 1000000 t0 t1 t5 t1 t16 (iN 0) H
def J1 (call : aa) (n : Nat) : AV → AV → AV → AHeap → R :=
 Nat.rec (motive := fun _ => AV → AV → AV → AHeap → R) (fun _ _ _ _ => none) (fun _ q1 t0 t1 t5 H => pC call ZQ [t0, t5, t1] H fun t11 H =>
 pO (aUn .not t11) H fun t12 H =>
 ab t12 (ay t5 (iN 1) H fun t14 H =>
 q1 t0 t1 t14 H) (J2 call t0 t1 t5 H)) n
def a45 : Ff := ⟨fun call l H => ax (fun t0 t1 => J1 call 1000000 t0 t1 (iN 0) H) l⟩
end
noncomputable section
set_option maxRecDepth 100000
def J0 (_ : aa) (n : Nat) : AV → AV → AV → AV → AHeap → R :=
 Nat.rec (motive := fun _ => AV → AV → AV → AV → AHeap → R) (fun _ _ _ _ _ => none) (fun _ q0 t0 t1 t7 t8 H => aE t8 t7 H fun t9 H =>
 ab t9 (pO (af t0) H fun t12 H =>
 pFa 3 t12 H fun t13 H =>
 ldK .none H t13 fun t14 H =>
 ay t1 t8 H fun t17 H =>
 pIa 1 t14 t17 H fun t18 H =>
 stK 1 H t18 (.bool false) fun _ H =>
 ay t8 (iN 1) H fun t19 H =>
 q0 t0 t1 t7 t19 H) (some (.tup [], H))) n
def a43 : Ff := ⟨fun call l H => aY (fun t0 t1 t2 => J0 call 1000000 t0 t1 t2 (iN 0) H) l⟩
def IZ (_ : aa) (n : Nat) : AV → AV → AV → AV → AHeap → R :=
 Nat.rec (motive := fun _ => AV → AV → AV → AV → AHeap → R) (fun _ _ _ _ _ => none) (fun _ q0 t0 t5 t9 t10 H => aE t10 t9 H fun t11 H =>
 ab t11 (ay t0 t10 H fun t16 H =>
 pN (aM 1 1 [(iN 0)] [(0, 1, t16)]) H fun t17 H =>
 pW (bz 1 8 H t5 t17) fun t18 H =>
 ay t10 (iN 1) H fun t19 H =>
 q0 t0 t18 t9 t19 H) (some (t5, H))) n
def Wb (call : aa) (t0 t1 : AV) (H : AHeap) : R :=
 dv t1 (iN 64) H fun t8 H =>
 ab t8 (IZ call 1000000 t0 .nilsl t1 (iN 0) H) (some (.nilsl, H))
def a42 : Ff := ⟨fun call l H => ax (fun t0 t1 => Wb call t0 t1 H) l⟩
def zN (_ : aa) (t1 t2 t4 t7 t12 : AV) (H : AHeap) : R :=
 ai t7 (.bool true) t12 H fun t13 H =>
 ab t13 (pO (au (aG [(iN 0), (iN 0), (iN 0), (iN 0), .nilsl, .nilsl, .nilsl] [])) H fun t14 H =>
 stK 7 H t4 t14 fun _ H =>
 ob (aD (fun o => o) [ah (.some 7) H t4]) fun vs => some (aV vs, H)) (pFa 4 t2 H fun t15 H =>
 ldK .none H t15 fun t16 H =>
 pIa 7 t16 t1 H fun t18 H =>
 ldK (.some 7) H t18 fun t19 H =>
 stK 7 H t4 t19 fun _ H =>
 ob (aD (fun o => o) [ah (.some 7) H t4]) fun vs => some (aV vs, H))
def Wa (call : aa) (t0 t1 : AV) (H : AHeap) : R :=
 ba t0 H fun t2 H =>
 aB [(iN 0), (iN 0), (iN 0), (iN 0), .nilsl, .nilsl, .nilsl] H fun t4 H =>
 aE t1 (iN 0) H fun t6 H =>
 ae t6 false (pFa 4 t2 H fun t9 H =>
 ldK .none H t9 fun t10 H =>
 pO (aw .sl H t10) H fun t11 H =>
 aZ t1 t11 H fun t12 H =>
 zN call t1 t2 t4 t6 t12 H) (zN call t1 t2 t4 t6 U H)
def a40 : Ff := ⟨fun call l H => ax (fun t0 t1 => Wa call t0 t1 H) l⟩
def W9 (call : aa) (t0 : AV) (H : AHeap) : R :=
 ab (.bool false) (aU .u32 t0 H fun t4 H =>
 pC call a6V [t4] H fun t5 H =>
 some (t5, H)) (pC call ZP [t0] H fun t7 H =>
 some (t7, H))
def a3Z : Ff := ⟨fun call l H => az (fun t0 => W9 call t0 H) l⟩
def W8 (_ : aa) (n : Nat) : AV → AHeap → R :=
 Nat.rec (motive := fun _ => AV → AHeap → R) (fun _ _ => none) (fun _ _ _ _H => none) n
def W7 (_ : aa) (_t0 t1 : AV) (H : AHeap) : R :=
 ldK .none H t1 fun _ _ =>
 none
def a3Y : Ff := ⟨fun call l H => ax (fun t0 t1 => W7 call t0 t1 H) l⟩
def zM (_ : aa) (t14 t15 t66 t74 : AV) (H : AHeap) : R :=
 ai t66 t74 (.bool false) H fun t75 H =>
 pFa 3 t15 H fun t76 H =>
 stK 1 H t76 t75 fun _ H =>
 ldK (.some 4) H t15 fun t77 H =>
 stK 4 H t14 t77 fun _ H =>
 ob (aD (fun o => o) [ah (.some 4) H t14]) fun vs => some (aV vs, H)
def zL (call : aa) (t14 t15 t66 t67 t69 t73 : AV) (H : AHeap) : R :=
 ae t66 true (pC call qR [t67, t69, t73] H fun t74 H =>
 zM call t14 t15 t66 t74 H) (zM call t14 t15 t66 U H)
def zK (call : aa) (t14 t15 t66 t67 t69 t72 : AV) (H : AHeap) : R :=
 ae t66 true (ldK .none H t72 fun t73 H =>
 zL call t14 t15 t66 t67 t69 t73 H) (zL call t14 t15 t66 t67 t69 U H)
def zJ (call : aa) (t14 t15 t66 t67 t69 t70 t71 : AV) (H : AHeap) : R :=
 ae t66 true (pIa 1 t70 t71 H fun t72 H =>
 zK call t14 t15 t66 t67 t69 t72 H) (zK call t14 t15 t66 t67 t69 U H)
def zI (call : aa) (t6 t14 t15 t66 t67 t69 t70 : AV) (H : AHeap) : R :=
 ae t66 true (zJ call t14 t15 t66 t67 t69 t70 t6 H) (zJ call t14 t15 t66 t67 t69 t70 U H)
def zH (call : aa) (t6 t14 t15 t18 t66 t67 t69 : AV) (H : AHeap) : R :=
 ae t66 true (zI call t6 t14 t15 t66 t67 t69 t18 H) (zI call t6 t14 t15 t66 t67 t69 U H)
def zG (call : aa) (t6 t14 t15 t18 t66 t67 t68 : AV) (H : AHeap) : R :=
 ae t66 true (ldK .none H t68 fun t69 H =>
 zH call t6 t14 t15 t18 t66 t67 t69 H) (zH call t6 t14 t15 t18 t66 t67 U H)
def zF (call : aa) (t6 t14 t15 t18 t66 t67 : AV) (H : AHeap) : R :=
 ae t66 true (pFa 2 t15 H fun t68 H =>
 zG call t6 t14 t15 t18 t66 t67 t68 H) (zG call t6 t14 t15 t18 t66 t67 U H)
def zE (call : aa) (t1 t6 t14 t15 t18 t60 t64 : AV) (H : AHeap) : R :=
 ai t60 t64 (.bool false) H fun t65 H =>
 ae t65 true (zF call t6 t14 t15 t18 t65 t1 H) (zF call t6 t14 t15 t18 t65 U H)
def zD (call : aa) (t1 t6 t14 t15 t18 t60 t61 t63 : AV) (H : AHeap) : R :=
 ae t60 true (aE t61 t63 H fun t64 H =>
 zE call t1 t6 t14 t15 t18 t60 t64 H) (zE call t1 t6 t14 t15 t18 t60 U H)
def sc (call : aa) (t1 t6 t14 t15 t18 t60 t61 t62 : AV) (H : AHeap) : R :=
 ae t60 true (pO (aw .sl H t62) H fun t63 H =>
 zD call t1 t6 t14 t15 t18 t60 t61 t63 H) (zD call t1 t6 t14 t15 t18 t60 t61 U H)
def rZ (call : aa) (t1 t6 t14 t15 t18 t60 t61 : AV) (H : AHeap) : R :=
 ae t60 true (sc call t1 t6 t14 t15 t18 t60 t61 t18 H) (sc call t1 t6 t14 t15 t18 t60 t61 U H)
def rY (_ : aa) (t14 t15 t35 t39 : AV) (H : AHeap) : R :=
 ai t35 (.bool true) t39 H fun t40 H =>
 pFa 3 t15 H fun t41 H =>
 stK 1 H t41 t40 fun _ H =>
 ldK (.some 4) H t15 fun t42 H =>
 stK 4 H t14 t42 fun _ H =>
 ob (aD (fun o => o) [ah (.some 4) H t14]) fun vs => some (aV vs, H)
def rX (call : aa) (t0 t1 t2 t6 t14 t15 t27 t29 : AV) (H : AHeap) : R :=
 ai t27 t29 (.bool false) H fun t30 H =>
 ab t30 (pFa 2 t15 H fun t32 H =>
 ldK .none H t32 fun t33 H =>
 pC call qR [t1, t33, (.bool true)] H fun t34 H =>
 ae t34 false (pFa 2 t15 H fun t37 H =>
 ldK .none H t37 fun t38 H =>
 pC call qR [t1, t38, (.bool false)] H fun t39 H =>
 rY call t14 t15 t34 t39 H) (rY call t14 t15 t34 U H)) (pC call H4 [t2] H fun t45 H =>
 ao t45 0 H fun t46 H =>
 ao t45 1 H fun _ H =>
 aB [(iN 0), (iN 0), .nilsl] H fun t16 H =>
 stK 3 H t16 t46 fun _ H =>
 pO (af t0) H fun t49 H =>
 pFa 0 t49 H fun t50 H =>
 pFa 4 t50 H fun t51 H =>
 ldK .none H t51 fun t52 H =>
 pFa 0 t16 H fun t53 H =>
 ldK .none H t53 fun t54 H =>
 pIa 7 t52 t54 H fun t55 H =>
 pFa 4 t55 H fun t56 H =>
 ldK .none H t56 fun t57 H =>
 aZ t6 (iN 0) H fun t59 H =>
 ae t59 true (rZ call t1 t6 t14 t15 t57 t59 t6 H) (rZ call t1 t6 t14 t15 t57 t59 U H))
def O3 (call : aa) (t0 t1 t2 t3 t4 t5 t6 : AV) (H : AHeap) : R :=
 aB [(iN 0), (.bool false), (iN 0), (.bool false)] H fun t14 H =>
 pC call cW [t2, t5] H fun t23 H =>
 pO (au (aG [(iN 0), (.bool false), (iN 0), (.bool false)] [(0, 1, t3), (1, 1, t4), (2, 1, t23)])) H fun t24 H =>
 aB [(iN 0), (.bool false), (iN 0), (.bool false)] H fun t15 H =>
 stK 4 H t15 t24 fun _ H =>
 aj t6 (.int .i64 (.negSucc 0)) H fun t26 H =>
 ae t26 true (pO (aUn .not t4) H fun t29 H =>
 rX call t0 t1 t2 t6 t14 t15 t26 t29 H) (rX call t0 t1 t2 t6 t14 t15 t26 U H)
def a3X : Ff := ⟨fun call l H => nS (fun t0 t1 t2 t3 t4 t5 t6 => O3 call t0 t1 t2 t3 t4 t5 t6 H) l⟩
def zC (_ : aa) (t15 t19 : AV) (H : AHeap) : R :=
 ai t15 (.bool true) t19 H fun t20 H =>
 some (t20, H)
def W5 (call : aa) (t0 t1 : AV) (H : AHeap) : R :=
 pC call xg [t0, t1] H fun t10 H =>
 ao t10 0 H fun t11 H =>
 ao t10 1 H fun _ H =>
 pO (aUn .not t11) H fun t14 H =>
 ae t14 false (pC call vt [t0, t1, (iN 3)] H fun t18 H =>
 aQ t18 (iN 0) H fun t19 H =>
 zC call t14 t19 H) (zC call t14 U H)
def a3W : Ff := ⟨fun call l H => ax (fun t0 t1 => W5 call t0 t1 H) l⟩
def W4 (call : aa) (t0 t1 : AV) (H : AHeap) : R :=
 pC call xg [t0, t1] H fun t10 H =>
 ao t10 0 H fun t11 H =>
 ao t10 1 H fun _ H =>
 pO (aUn .not t11) H fun t14 H =>
 ab t14 (some ((iN 0), H)) (pC call vt [t0, t1, (iN 1)] H fun t17 H =>
 some (t17, H))
def a3V : Ff := ⟨fun call l H => ax (fun t0 t1 => W4 call t0 t1 H) l⟩
def W1 (call : aa) (t0 t1 : AV) (H : AHeap) : R :=
 pC call xg [t0, t1] H fun t10 H =>
 ao t10 0 H fun t11 H =>
 ao t10 1 H fun _ H =>
 pO (aUn .not t11) H fun t14 H =>
 ab t14 (some ((iN 0), H)) (pC call vt [t0, t1, (iN 0)] H fun t17 H =>
 some (t17, H))
def a3U : Ff := ⟨fun call l H => ax (fun t0 t1 => W1 call t0 t1 H) l⟩
def VZ (call : aa) (t0 t1 t2 : AV) (H : AHeap) : R :=
 pC call Sc [t0, t1, t2] H fun t12 H =>
 pO (aEq false .ptr t12 .nilp) H fun t14 H =>
 ab t14 (some (.tup [(iN 0), (iN 1)], H)) (pO (af t12) H fun t16 H =>
 ldK .none H t16 fun t17 H =>
 some (.tup [t17, (iN 0)], H))
def a3T : Ff := ⟨fun call l H => aY (fun t0 t1 t2 => VZ call t0 t1 t2 H) l⟩
def zB (_ : aa) (t2 t5 t21 t24 : AV) (H : AHeap) : R :=
 ai t21 (.bool true) t24 H fun t25 H =>
 ab t25 (pO (au (aG [(iN 0), (iN 0), (iN 0)] [])) H fun t26 H =>
 stK 3 H t2 t26 fun _ H =>
 ob (aD (fun o => o) [ah (.some 3) H t2, some (iN 3)]) fun vs => some (aV vs, H)) (ldK (.some 3) H t5 fun t27 H =>
 stK 3 H t2 t27 fun _ H =>
 ob (aD (fun o => o) [ah (.some 3) H t2, some (iN 0)]) fun vs => some (aV vs, H))
def VY (call : aa) (t0 : AV) (H : AHeap) : R :=
 aB [(iN 0), (iN 0), (iN 0)] H fun t2 H =>
 aU .u64 t0 H fun t7 H =>
 pC call LG [t7, (iN 0), (iN 7)] H fun t9 H =>
 aU .i64 t9 H fun t10 H =>
 pC call LG [t7, (iN 7), (iN 3)] H fun t12 H =>
 aU .i64 t12 H fun t13 H =>
 pC call LG [t7, (iN 10), (iN 16)] H fun t15 H =>
 aU .i64 t15 H fun t16 H =>
 pO (au (aG [(iN 0), (iN 0), (iN 0)] [(0, 1, t10), (1, 1, t13), (2, 1, t16)])) H fun t17 H =>
 aB [(iN 0), (iN 0), (iN 0)] H fun t5 H =>
 stK 3 H t5 t17 fun _ H =>
 pO (aW .shr t7 (.int .u64 (.ofNat 26))) H fun t19 H =>
 aQ t19 (.int .u64 (.ofNat 0)) H fun t20 H =>
 ae t20 false (ldK (.some 3) H t5 fun t22 H =>
 pC call Sb [t22] H fun t23 H =>
 pO (aUn .not t23) H fun t24 H =>
 zB call t2 t5 t20 t24 H) (zB call t2 t5 t20 U H)
def a3S : Ff := ⟨fun call l H => az (fun t0 => VY call t0 H) l⟩
def zA (_ : aa) (t0 t5 t7 : AV) (H : AHeap) : R :=
 ai t5 (.bool true) t7 H fun t8 H =>
 ab t8 (some ((.int .i64 (.negSucc 0)), H)) (pO (aW .quo t0 (iN 64)) H fun t10 H =>
 some (t10, H))
def VX (call : aa) (t0 : AV) (H : AHeap) : R :=
 aE t0 (iN 0) H fun t4 H =>
 ae t4 false (aZ t0 (iN 32768) H fun t7 H =>
 zA call t0 t4 t7 H) (zA call t0 t4 U H)
def a3R : Ff := ⟨fun call l H => az (fun t0 => VX call t0 H) l⟩
def zz (_ : aa) (t0 t1 t4 t8 t15 : AV) (H : AHeap) : R :=
 ai t8 (.bool true) t15 H fun t16 H =>
 ab t16 (pO (au (aG [(iN 0), (iN 0), (.int .u64 (.ofNat 0))] [])) H fun t17 H =>
 stK 3 H t4 t17 fun _ H =>
 ob (aD (fun o => o) [ah (.some 3) H t4, some (iN 4)]) fun vs => some (aV vs, H)) (pO (af t0) H fun t19 H =>
 pFa 0 t19 H fun t20 H =>
 ldK .none H t20 fun t21 H =>
 pIa 3 t21 t1 H fun t23 H =>
 ldK (.some 3) H t23 fun t24 H =>
 stK 3 H t4 t24 fun _ H =>
 ob (aD (fun o => o) [ah (.some 3) H t4, some (iN 0)]) fun vs => some (aV vs, H))
def VW (call : aa) (t0 t1 : AV) (H : AHeap) : R :=
 aB [(iN 0), (iN 0), (.int .u64 (.ofNat 0))] H fun t4 H =>
 aE t1 (iN 0) H fun t7 H =>
 ae t7 false (pO (af t0) H fun t11 H =>
 pFa 0 t11 H fun t12 H =>
 ldK .none H t12 fun t13 H =>
 pO (aw .sl H t13) H fun t14 H =>
 aZ t1 t14 H fun t15 H =>
 zz call t0 t1 t4 t7 t15 H) (zz call t0 t1 t4 t7 U H)
def a3Q : Ff := ⟨fun call l H => ax (fun t0 t1 => VW call t0 t1 H) l⟩
def zy (_ : aa) (t43 t45 : AV) (H : AHeap) : R :=
 ai t43 t45 (.bool false) H fun t46 H =>
 some (t46, H)
def zx (call : aa) (t1 t3 t20 t21 : AV) (H : AHeap) : R :=
 ab t21 (pFa 2 t3 H fun t24 H =>
 ldK .none H t24 fun t25 H =>
 aU .u64 t1 H fun t27 H =>
 pO (aW .shr t25 t27) H fun t28 H =>
 dG t28 (.int .u64 (.ofNat 1)) H fun t29 H =>
 aj t29 (.int .u64 (.ofNat 1)) H fun t30 H =>
 some (t30, H)) (aj t20 (iN 1) H fun t32 H =>
 ab t32 (pFa 2 t3 H fun t33 H =>
 ldK .none H t33 fun t34 H =>
 dG t34 (.int .u64 (.ofNat 1)) H fun t35 H =>
 aj t35 (.int .u64 (.ofNat 1)) H fun t36 H =>
 some (t36, H)) (aj t20 (iN 3) H fun t38 H =>
 ab t38 (pFa 2 t3 H fun t39 H =>
 ldK .none H t39 fun t40 H =>
 dG t40 (.int .u64 (.ofNat 1)) H fun t41 H =>
 aj t41 (.int .u64 (.ofNat 1)) H fun t42 H =>
 ae t42 true (aZ t1 (iN 4) H fun t45 H =>
 zy call t42 t45 H) (zy call t42 U H)) (some ((.bool false), H))))
def zw (call : aa) (t1 t3 t13 t17 : AV) (H : AHeap) : R :=
 ai t13 (.bool true) t17 H fun t18 H =>
 ab t18 (some ((.bool false), H)) (pFa 0 t3 H fun t19 H =>
 ldK .none H t19 fun t20 H =>
 aj t20 (iN 0) H fun t22 H =>
 ab t22 (zx call t1 t3 t20 t22 H) (aj t20 (iN 2) H fun t23 H =>
 zx call t1 t3 t20 t23 H))
def zv (call : aa) (t1 t2 t3 t9 t11 : AV) (H : AHeap) : R :=
 ai t9 (.bool true) t11 H fun t12 H =>
 ae t12 false (db t2 (iN 2) H fun t16 H =>
 dj t1 t16 H fun t17 H =>
 zw call t1 t3 t12 t17 H) (zw call t1 t3 t12 U H)
def VV (call : aa) (t0 t1 t2 : AV) (H : AHeap) : R :=
 ba t0 H fun t3 H =>
 aE t1 (iN 0) H fun t8 H =>
 ae t8 false (aE t2 (iN 2) H fun t11 H =>
 zv call t1 t2 t3 t8 t11 H) (zv call t1 t2 t3 t8 U H)
def a3P : Ff := ⟨fun call l H => aY (fun t0 t1 t2 => VV call t0 t1 t2 H) l⟩
def zu (_ : aa) (t5 t6 t15 t22 : AV) (H : AHeap) : R :=
 ai t15 (.bool true) t22 H fun t23 H =>
 ab t23 (some ((.bool false), H)) (pO (af t5) H fun t25 H =>
 pFa 2 t25 H fun t26 H =>
 ldK .none H t26 fun t27 H =>
 pOr t27 t6 H fun t29 H =>
 pO (af t5) H fun t30 H =>
 pFa 2 t30 H fun t31 H =>
 stK 1 H t31 t29 fun _ H =>
 some ((.bool true), H))
def VU (call : aa) (t0 t1 : AV) (H : AHeap) : R :=
 pC call Sa [t0, t1] H fun t10 H =>
 ao t10 0 H fun t11 H =>
 ao t10 1 H fun t12 H =>
 pO (aEq false .ptr t11 .nilp) H fun t14 H =>
 ae t14 false (pO (af t11) H fun t17 H =>
 pFa 2 t17 H fun t18 H =>
 ldK .none H t18 fun t19 H =>
 dG t19 t12 H fun t21 H =>
 aQ t21 (.int .u64 (.ofNat 0)) H fun t22 H =>
 zu call t11 t12 t14 t22 H) (zu call t11 t12 t14 U H)
def a3O : Ff := ⟨fun call l H => ax (fun t0 t1 => VU call t0 t1 H) l⟩
def VT (_ : aa) (t0 t1 : AV) (H : AHeap) : R :=
 pO (af t0) H fun t6 H =>
 pFa 0 t6 H fun t7 H =>
 ldK .none H t7 fun t8 H =>
 pN (aM 1 1 [(iN 0)] [(0, 1, t1)]) H fun t10 H =>
 pW (bz 1 8 H t8 t10) fun t11 H =>
 pO (af t0) H fun t12 H =>
 pFa 0 t12 H fun t13 H =>
 stK 1 H t13 t11 fun _ H =>
 some (.tup [], H)
def a3N : Ff := ⟨fun call l H => ax (fun t0 t1 => VT call t0 t1 H) l⟩
def zt (_ : aa) (t7 t14 : AV) (H : AHeap) : R :=
 ai t7 t14 (.bool false) H fun t15 H =>
 some (t15, H)
def VS (call : aa) (t0 t1 : AV) (H : AHeap) : R :=
 aZ t1 (iN 1) H fun t6 H =>
 ae t6 true (pO (af t0) H fun t10 H =>
 pFa 1 t10 H fun t11 H =>
 ldK .none H t11 fun t12 H =>
 pO (aw .sl H t12) H fun t13 H =>
 aE t1 t13 H fun t14 H =>
 zt call t6 t14 H) (zt call t6 U H)
def a3M : Ff := ⟨fun call l H => ax (fun t0 t1 => VS call t0 t1 H) l⟩
def VQ (call : aa) (t0 t1 : AV) (H : AHeap) : R :=
 pC call lK [t0, t1] H fun t9 H =>
 aj t9 (.int .i64 (.negSucc 0)) H fun t10 H =>
 ab t10 (some ((iN 0), H)) (pO (af t0) H fun t12 H =>
 pFa 1 t12 H fun t13 H =>
 ldK .none H t13 fun t14 H =>
 pIa 3 t14 t1 H fun t16 H =>
 pO (af t16) H fun t18 H =>
 pFa 1 t18 H fun t19 H =>
 ldK .none H t19 fun t20 H =>
 pO (af t16) H fun t22 H =>
 pFa 2 t22 H fun t23 H =>
 ldK .none H t23 fun t24 H =>
 jl t20 t24 H fun t25 H =>
 pC call St [t25] H fun t26 H =>
 pO (af t16) H fun t28 H =>
 pFa 1 t28 H fun t29 H =>
 ldK .none H t29 fun t30 H =>
 pO (af t16) H fun t32 H =>
 pFa 2 t32 H fun t33 H =>
 ldK .none H t33 fun t34 H =>
 dG t30 t34 H fun t35 H =>
 pO (af t16) H fun t36 H =>
 pFa 1 t36 H fun t37 H =>
 stK 1 H t37 t35 fun _ H =>
 pO (af t16) H fun t39 H =>
 pFa 1 t39 H fun t40 H =>
 ldK .none H t40 fun t41 H =>
 aj t41 (.int .u64 (.ofNat 0)) H fun t42 H =>
 ab t42 (pO (au (aG [(iN 0), (.int .u64 (.ofNat 0)), (.int .u64 (.ofNat 0))] [(0, 1, (.int .i64 (.negSucc 0)))])) H fun t44 H =>
 pO (af t16) H fun t45 H =>
 stK 3 H t45 t44 fun _ H =>
 some (t26, H)) (some (t26, H)))
def a3L : Ff := ⟨fun call l H => ax (fun t0 t1 => VQ call t0 t1 H) l⟩
def VP (_ : aa) (t0 : AV) (H : AHeap) : R :=
 pO (aW .shr t0 (.int .u64 (.ofNat 1))) H fun t4 H =>
 dG t4 (.int .u64 (.ofNat 6148914691236517205)) H fun t5 H =>
 dG t0 (.int .u64 (.ofNat 6148914691236517205)) H fun t7 H =>
 ay t5 t7 H fun t8 H =>
 pO (aW .shr t8 (.int .u64 (.ofNat 2))) H fun t10 H =>
 dG t10 (.int .u64 (.ofNat 3689348814741910323)) H fun t11 H =>
 dG t8 (.int .u64 (.ofNat 3689348814741910323)) H fun t13 H =>
 ay t11 t13 H fun t14 H =>
 pO (aW .shr t14 (.int .u64 (.ofNat 4))) H fun t16 H =>
 ay t16 t14 H fun t18 H =>
 dG t18 (.int .u64 (.ofNat 1085102592571150095)) H fun t19 H =>
 pO (aW .shr t19 (.int .u64 (.ofNat 8))) H fun t22 H =>
 ay t19 t22 H fun t23 H =>
 pO (aW .shr t23 (.int .u64 (.ofNat 16))) H fun t26 H =>
 ay t23 t26 H fun t27 H =>
 pO (aW .shr t27 (.int .u64 (.ofNat 32))) H fun t30 H =>
 ay t27 t30 H fun t31 H =>
 aU .i64 t31 H fun t33 H =>
 dG t33 (iN 127) H fun t34 H =>
 some (t34, H)
def a3K : Ff := ⟨fun call l H => az (fun t0 => VP call t0 H) l⟩
def zr (_ : aa) (t1 t2 t6 t15 t22 : AV) (H : AHeap) : R :=
 ai t15 t22 (.bool false) H fun t23 H =>
 ab t23 (pO (af t6) H fun t25 H =>
 pFa 2 t25 H fun t26 H =>
 ldK .none H t26 fun t27 H =>
 pIa 1 t27 t1 H fun t30 H =>
 stK 1 H t30 t2 fun _ H =>
 some (.tup [], H)) (some (.tup [], H))
def zq (call : aa) (t1 t2 t6 t11 t13 : AV) (H : AHeap) : R :=
 ai t11 t13 (.bool false) H fun t14 H =>
 ae t14 true (pO (af t6) H fun t18 H =>
 pFa 2 t18 H fun t19 H =>
 ldK .none H t19 fun t20 H =>
 pO (aw .sl H t20) H fun t21 H =>
 aE t1 t21 H fun t22 H =>
 zr call t1 t2 t6 t14 t22 H) (zr call t1 t2 t6 t14 U H)
def VO (call : aa) (t0 t1 t2 : AV) (H : AHeap) : R :=
 pC call F6 [t0] H fun t8 H =>
 pO (aEq true .ptr t8 .nilp) H fun t10 H =>
 ae t10 true (aZ t1 (iN 0) H fun t13 H =>
 zq call t1 t2 t8 t10 t13 H) (zq call t1 t2 t8 t10 U H)
def a3J : Ff := ⟨fun call l H => aY (fun t0 t1 t2 => VO call t0 t1 t2 H) l⟩
def VN (call : aa) (t0 t1 : AV) (H : AHeap) : R :=
 ay t0 t1 H fun t7 H =>
 pC call vB [t7] H fun t8 H =>
 some (t8, H)
def a3I : Ff := ⟨fun call l H => ax (fun t0 t1 => VN call t0 t1 H) l⟩
def VM (call : aa) (t0 t1 : AV) (H : AHeap) : R :=
 db t0 t1 H fun t7 H =>
 pC call vB [t7] H fun t8 H =>
 some (t8, H)
def a3H : Ff := ⟨fun call l H => ax (fun t0 t1 => VM call t0 t1 H) l⟩
def VL (call : aa) (t0 t1 : AV) (H : AHeap) : R :=
 kC t0 t1 H fun t7 H =>
 pC call vB [t7] H fun t8 H =>
 some (t8, H)
def a3G : Ff := ⟨fun call l H => ax (fun t0 t1 => VL call t0 t1 H) l⟩
def VK (call : aa) (t0 t1 t2 t3 : AV) (H : AHeap) : R :=
 ba t1 H fun t5 H =>
 ldK (.some 6) H t5 fun t12 H =>
 pC call a7S [t12, t2, t3] H fun t15 H =>
 ao t15 0 H fun t16 H =>
 ao t15 1 H fun t17 H =>
 aB [(iN 0), (iN 0), .nilsl] H fun t9 H =>
 stK 3 H t9 t16 fun _ H =>
 pO (af t0) H fun t20 H =>
 pFa 0 t20 H fun t21 H =>
 ldK .none H t21 fun t22 H =>
 pO (aw .sl H t22) H fun t23 H =>
 aZ t23 (iN 256) H fun t24 H =>
 ab t24 (some ((iN 2), H)) (aQ t17 (iN 0) H fun t27 H =>
 ab t27 (some (t17, H)) (pO (af t0) H fun t31 H =>
 pFa 0 t31 H fun t32 H =>
 ldK .none H t32 fun t33 H =>
 ldK (.some 3) H t9 fun t34 H =>
 pN (aM 3 1 [(iN 0), (iN 0), .nilsl] [(0, 3, t34)]) H fun t35 H =>
 pW (bz 3 40 H t33 t35) fun t36 H =>
 pO (af t0) H fun t37 H =>
 pFa 0 t37 H fun t38 H =>
 stK 1 H t38 t36 fun _ H =>
 some ((iN 0), H)))
def a3F : Ff := ⟨fun call l H => dh (fun t0 t1 t2 t3 => VK call t0 t1 t2 t3 H) l⟩
def VJ (call : aa) (t0 t1 : AV) (H : AHeap) : R :=
 aB [(iN 0), (iN 0), (iN 0)] H fun t4 H =>
 aB [(iN 0), (iN 0), (.int .u64 (.ofNat 0))] H fun t5 H =>
 pO (af t0) H fun t13 H =>
 pFa 0 t13 H fun t14 H =>
 ldK .none H t14 fun t15 H =>
 pC call vw [t15] H fun t16 H =>
 pC call xi [t16, t1, (iN 0)] H fun t18 H =>
 ao t18 0 H fun t19 H =>
 ao t18 1 H fun t20 H =>
 aQ t20 (iN 0) H fun t22 H =>
 ab t22 (pO (au (aG [(iN 0), (iN 0), (iN 0)] [])) H fun t23 H =>
 pO (au (aG [(iN 0), (iN 0), (.int .u64 (.ofNat 0))] [])) H fun t24 H =>
 stK 3 H t4 t23 fun _ H =>
 stK 3 H t5 t24 fun _ H =>
 ob (aD (fun o => o) [ah (.some 3) H t4, ah (.some 3) H t5, some (.bool false)]) fun vs => some (aV vs, H)) (pC call Sk [t19] H fun t27 H =>
 ao t27 0 H fun t28 H =>
 ao t27 1 H fun t29 H =>
 aB [(iN 0), (iN 0), (iN 0)] H fun t9 H =>
 stK 3 H t9 t28 fun _ H =>
 aQ t29 (iN 0) H fun t31 H =>
 ab t31 (pO (au (aG [(iN 0), (iN 0), (iN 0)] [])) H fun t32 H =>
 pO (au (aG [(iN 0), (iN 0), (.int .u64 (.ofNat 0))] [])) H fun t33 H =>
 stK 3 H t4 t32 fun _ H =>
 stK 3 H t5 t33 fun _ H =>
 ob (aD (fun o => o) [ah (.some 3) H t4, ah (.some 3) H t5, some (.bool false)]) fun vs => some (aV vs, H)) (pO (af t0) H fun t36 H =>
 pFa 0 t36 H fun t37 H =>
 ldK .none H t37 fun t38 H =>
 pFa 2 t9 H fun t40 H =>
 ldK .none H t40 fun t41 H =>
 aB [(iN 0), (iN 0), (.int .u64 (.ofNat 0))] H fun t10 H =>
 pC call n97 [t38] H fun t39 H =>
 aR (aA (ckV (ah .none H t40) t41) true) (
 pC call Sj [t39, t41] H fun t42 H =>
 ao t42 0 H fun t43 H =>
 ao t42 1 H fun t44 H =>
 stK 3 H t10 t43 fun _ H =>
 aQ t44 (iN 0) H fun t46 H =>
 ab t46 (pO (au (aG [(iN 0), (iN 0), (iN 0)] [])) H fun t47 H =>
 pO (au (aG [(iN 0), (iN 0), (.int .u64 (.ofNat 0))] [])) H fun t48 H =>
 stK 3 H t4 t47 fun _ H =>
 stK 3 H t5 t48 fun _ H =>
 ob (aD (fun o => o) [ah (.some 3) H t4, ah (.some 3) H t5, some (.bool false)]) fun vs => some (aV vs, H)) (ldK (.some 3) H t9 fun t49 H =>
 ldK (.some 3) H t10 fun t50 H =>
 stK 3 H t4 t49 fun _ H =>
 aR (aA (ckV (ah (.some 3) H t10) t50) true) (
 stK 3 H t5 t50 fun _ H =>
 ob (aD (fun o => o) [ah (.some 3) H t4, ah (.some 3) H t5, some (.bool true)]) fun vs => some (aV vs, H))))))
def a3E : Ff := ⟨fun call l H => ax (fun t0 t1 => VJ call t0 t1 H) l⟩
def VI (_ : aa) (t0 : AV) (H : AHeap) : R :=
 pO (af t0) H fun t4 H =>
 pFa 0 t4 H fun t5 H =>
 ldK .none H t5 fun t6 H =>
 some (t6, H)
def a3D : Ff := ⟨fun call l H => az (fun t0 => VI call t0 H) l⟩
def zp (_ : aa) (t0 : AV) (H : AHeap) : R :=
 pO (af t0) H fun t24 H =>
 pFa 0 t24 H fun t25 H =>
 ldK .none H t25 fun t26 H =>
 pO (aw .sl H t26) H fun t27 H =>
 dj t27 (iN 0) H fun t28 H =>
 some (t28, H)
def VH (call : aa) (t0 : AV) (H : AHeap) : R :=
 pO (af t0) H fun t4 H =>
 pFa 0 t4 H fun t5 H =>
 ldK .none H t5 fun t6 H =>
 pO (aw .sl H t6) H fun t7 H =>
 dj t7 (iN 0) H fun t8 H =>
 ab t8 (pO (af t0) H fun t11 H =>
 pFa 0 t11 H fun t12 H =>
 ldK .none H t12 fun t13 H =>
 pO (af t0) H fun t15 H =>
 pFa 0 t15 H fun t16 H =>
 ldK .none H t16 fun t17 H =>
 pO (aw .sl H t17) H fun t18 H =>
 db t18 (iN 1) H fun t19 H =>
 pO (bT 3 H t13 .none (.some t19) .none) H fun t20 H =>
 pO (af t0) H fun t21 H =>
 pFa 0 t21 H fun t22 H =>
 stK 1 H t22 t20 fun _ H =>
 zp call t0 H) (zp call t0 H)
def a3C : Ff := ⟨fun call l H => az (fun t0 => VH call t0 H) l⟩
def VG (_ : aa) (t0 t1 : AV) (H : AHeap) : R :=
 pO (af t0) H fun t5 H =>
 pFa 6 t5 H fun t6 H =>
 ldK .none H t6 fun t7 H =>
 pW (cG (i7 .int H t7 t1)) fun _ H =>
 some (.tup [], H)
def a3B : Ff := ⟨fun call l H => ax (fun t0 t1 => VG call t0 t1 H) l⟩
def VF (_ : aa) (t0 t1 : AV) (H : AHeap) : R :=
 pO (af t0) H fun t5 H =>
 pFa 5 t5 H fun t6 H =>
 ldK .none H t6 fun t7 H =>
 pW (cG (i7 .int H t7 t1)) fun _ H =>
 some (.tup [], H)
def a3A : Ff := ⟨fun call l H => ax (fun t0 t1 => VF call t0 t1 H) l⟩
def zo (call : aa) (t0 t6 t7 t19 t21 : AV) (H : AHeap) : R :=
 ai t19 t21 (.bool false) H fun t22 H =>
 ab t22 (pO (af t0) H fun t24 H =>
 pFa 0 t24 H fun t25 H =>
 ldK .none H t25 fun t26 H =>
 pC call Si [t26, t6] H fun _ H =>
 some (.tup [t6, t7], H)) (some (.tup [t6, t7], H))
def VD (call : aa) (t0 t1 : AV) (H : AHeap) : R :=
 pO (af t0) H fun t10 H =>
 pFa 2 t10 H fun t11 H =>
 ldK .none H t11 fun t12 H =>
 pC call ZO [t12, t1] H fun t14 H =>
 ao t14 0 H fun t15 H =>
 ao t14 1 H fun t16 H =>
 aj t16 (iN 0) H fun t18 H =>
 ae t18 true (pC call Sv [t0] H fun t21 H =>
 zo call t0 t15 t16 t18 t21 H) (zo call t0 t15 t16 t18 U H)
def a3z : Ff := ⟨fun call l H => ax (fun t0 t1 => VD call t0 t1 H) l⟩
def VC (call : aa) (t0 : AV) (H : AHeap) : R :=
 ba t0 H fun t1 H =>
 ldK (.some 3) H t1 fun t5 H =>
 pC call Sb [t5] H fun t6 H =>
 pO (aUn .not t6) H fun t7 H =>
 ab t7 (some (.tup [(iN 0), (iN 1)], H)) (pFa 0 t1 H fun t8 H =>
 ldK .none H t8 fun t9 H =>
 aU .u64 t9 H fun t10 H =>
 pFa 1 t1 H fun t11 H =>
 ldK .none H t11 fun t12 H =>
 aU .u64 t12 H fun t13 H =>
 pC call LH [t10, (iN 7), (iN 3), t13] H fun t14 H =>
 pFa 2 t1 H fun t16 H =>
 ldK .none H t16 fun t17 H =>
 aU .u64 t17 H fun t18 H =>
 pC call LH [t14, (iN 10), (iN 16), t18] H fun t19 H =>
 aU .i64 t19 H fun t20 H =>
 some (.tup [t20, (iN 0)], H))
def a3y : Ff := ⟨fun call l H => az (fun t0 => VC call t0 H) l⟩
def VB (call : aa) (t0 t1 t2 t3 : AV) (H : AHeap) : R :=
 pC call Sc [t0, t1, t2] H fun t13 H =>
 pO (aEq false .ptr t13 .nilp) H fun t15 H =>
 ab t15 (some ((iN 1), H)) (pO (af t13) H fun t18 H =>
 stK 1 H t18 t3 fun _ H =>
 some ((iN 0), H))
def a3x : Ff := ⟨fun call l H => dh (fun t0 t1 t2 t3 => VB call t0 t1 t2 t3 H) l⟩
def VA (call : aa) (t0 t1 t2 t3 : AV) (H : AHeap) : R :=
 pC call S2 [t1, t2] H fun t11 H =>
 pO (aUn .not t11) H fun t12 H =>
 ab t12 (some (t0, H)) (pC call LF [t2] H fun t16 H =>
 aU .u64 t1 H fun t18 H =>
 pO (aW .shl t16 t18) H fun t19 H =>
 jl t0 t19 H fun t20 H =>
 pC call LF [t2] H fun t23 H =>
 dG t3 t23 H fun t24 H =>
 aU .u64 t1 H fun t26 H =>
 pO (aW .shl t24 t26) H fun t27 H =>
 pOr t20 t27 H fun t28 H =>
 some (t28, H))
def a3w : Ff := ⟨fun call l H => dh (fun t0 t1 t2 t3 => VA call t0 t1 t2 t3 H) l⟩
def Vz (call : aa) (t0 t1 t2 t3 : AV) (H : AHeap) : R :=
 pC call n62 [t0] H fun t9 H =>
 pC call vw [t9] H fun t10 H =>
 ay t2 (iN 1) H fun t13 H =>
 pC call LI [t10, t1, t13, t3] H fun _ H =>
 some (.tup [], H)
def a3v : Ff := ⟨fun call l H => dh (fun t0 t1 t2 t3 => Vz call t0 t1 t2 t3 H) l⟩
def zn (call : aa) (t0 t1 t2 t3 : AV) (H : AHeap) : R :=
 pO (af t0) H fun t36 H =>
 pFa 0 t36 H fun t37 H =>
 ldK .none H t37 fun t38 H =>
 pC call vw [t38] H fun t39 H =>
 ay t2 (iN 1) H fun t42 H =>
 pC call LI [t39, t1, t42, t3] H fun _ H =>
 some (.tup [], H)
def Vy (call : aa) (t0 t1 t2 t3 t4 t5 : AV) (H : AHeap) : R :=
 ab t4 (pO (af t0) H fun t17 H =>
 pFa 0 t17 H fun t18 H =>
 ldK .none H t18 fun t19 H =>
 pC call vw [t19] H fun t20 H =>
 ay t2 (iN 1) H fun t23 H =>
 pC call xi [t20, t1, t23] H fun t24 H =>
 ao t24 0 H fun t25 H =>
 ao t24 1 H fun _ H =>
 pO (af t0) H fun t28 H =>
 pFa 0 t28 H fun t29 H =>
 ldK .none H t29 fun t30 H =>
 pC call LN [t30, t25, t3, t5] H fun _ H =>
 zn call t0 t1 t2 t3 H) (zn call t0 t1 t2 t3 H)
def a3u : Ff := ⟨fun call l H => vY (fun t0 t1 t2 t3 t4 t5 => Vy call t0 t1 t2 t3 t4 t5 H) l⟩
def zm (_ : aa) (t38 t43 : AV) (H : AHeap) : R :=
 ai t38 (.bool true) t43 H fun t44 H =>
 ab t44 (some ((iN 2), H)) (some ((iN 0), H))
def zl (call : aa) (t2 t9 t27 t33 : AV) (H : AHeap) : R :=
 ai t27 (.bool true) t33 H fun t34 H =>
 ab t34 (some ((iN 1), H)) (aE t2 (iN 0) H fun t37 H =>
 ae t37 false (pFa 0 t9 H fun t40 H =>
 ldK .none H t40 fun t41 H =>
 db t41 (iN 1) H fun t42 H =>
 aZ t2 t42 H fun t43 H =>
 zm call t37 t43 H) (zm call t37 U H))
def zk (call : aa) (t2 t3 t9 t10 t22 t25 : AV) (H : AHeap) : R :=
 ai t22 (.bool true) t25 H fun t26 H =>
 ae t26 false (pFa 2 t10 H fun t28 H =>
 ldK .none H t28 fun t29 H =>
 dG t29 (.int .u64 (.ofNat 1)) H fun t30 H =>
 aj t30 (.int .u64 (.ofNat 1)) H fun t31 H =>
 pO (aEq true .bool t31 t3) H fun t33 H =>
 zl call t2 t9 t26 t33 H) (zl call t2 t9 t26 U H)
def Vx (call : aa) (t0 t1 t2 t3 : AV) (H : AHeap) : R :=
 pC call LJ [t0, t1] H fun t15 H =>
 ao t15 0 H fun t16 H =>
 ao t15 1 H fun t17 H =>
 ao t15 2 H fun t18 H =>
 aB [(iN 0), (iN 0), (iN 0)] H fun t9 H =>
 aB [(iN 0), (iN 0), (.int .u64 (.ofNat 0))] H fun t10 H =>
 stK 3 H t9 t16 fun _ H =>
 stK 3 H t10 t17 fun _ H =>
 pO (aUn .not t18) H fun t21 H =>
 ae t21 false (pFa 1 t9 H fun t23 H =>
 ldK .none H t23 fun t24 H =>
 aQ t24 (iN 1) H fun t25 H =>
 zk call t2 t3 t9 t10 t21 t25 H) (zk call t2 t3 t9 t10 t21 U H)
def a3t : Ff := ⟨fun call l H => dh (fun t0 t1 t2 t3 => Vx call t0 t1 t2 t3 H) l⟩
def zj (_ : aa) (t16 t19 : AV) (H : AHeap) : R :=
 ai t16 t19 (.bool false) H fun t20 H =>
 some (t20, H)
def Vw (call : aa) (t0 t1 t2 : AV) (H : AHeap) : R :=
 pC call xg [t0, t1] H fun t12 H =>
 ao t12 0 H fun t13 H =>
 ao t12 1 H fun t14 H =>
 ae t13 true (pO (aEq false .bool t14 t2) H fun t19 H =>
 zj call t13 t19 H) (zj call t13 U H)
def a3s : Ff := ⟨fun call l H => aY (fun t0 t1 t2 => Vw call t0 t1 t2 H) l⟩
def Vv (call : aa) (t0 t1 : AV) (H : AHeap) : R :=
 pC call GS [t0, t1] H fun t7 H =>
 ab t7 (some ((.bool false), H)) (pC call vu [t0, t1, (iN 3), (iN 1)] H fun _ H =>
 some ((.bool true), H))
def a3r : Ff := ⟨fun call l H => ax (fun t0 t1 => Vv call t0 t1 H) l⟩
def zi (call : aa) (t0 t1 t2 t9 : AV) (H : AHeap) : R :=
 pC call vu [t0, t1, t9, t2] H fun _ H =>
 pC call vy [t0, t1] H fun t61 H =>
 ay t61 (iN 1) H fun t62 H =>
 pC call vu [t0, t1, (iN 1), t62] H fun _ H =>
 some ((.bool true), H)
def zh (call : aa) (t0 t1 t2 t3 t15 t22 : AV) (H : AHeap) : R :=
 ai t15 (.bool true) t22 H fun t23 H =>
 ab t23 (some ((.bool false), H)) (pC call vt [t0, t1, (iN 2)] H fun t26 H =>
 pC call vy [t0, t1] H fun t29 H =>
 ay t26 t29 H fun t30 H =>
 pC call vx [t0, t1] H fun t33 H =>
 pO (aW .rem t30 t33) H fun t34 H =>
 ay (iN 4) t34 H fun t35 H =>
 pC call xg [t0, t1] H fun t39 H =>
 ao t39 0 H fun _ H =>
 ao t39 1 H fun t41 H =>
 ab t41 (pC call n62 [t0] H fun t44 H =>
 pC call vt [t0, t1, t35] H fun t48 H =>
 pC call LN [t44, t48, t2, t3] H fun _ H =>
 zi call t0 t1 t2 t35 H) (zi call t0 t1 t2 t35 H))
def Vu (call : aa) (t0 t1 t2 t3 : AV) (H : AHeap) : R :=
 pC call GS [t0, t1] H fun t14 H =>
 ae t14 false (pC call vy [t0, t1] H fun t18 H =>
 pC call vx [t0, t1] H fun t21 H =>
 aZ t18 t21 H fun t22 H =>
 zh call t0 t1 t2 t3 t14 t22 H) (zh call t0 t1 t2 t3 t14 U H)
def a3q : Ff := ⟨fun call l H => dh (fun t0 t1 t2 t3 => Vu call t0 t1 t2 t3 H) l⟩
def Vt (call : aa) (t0 t1 t2 : AV) (H : AHeap) : R :=
 pC call n62 [t0] H fun t11 H =>
 pC call vw [t11] H fun t12 H =>
 ay t2 (iN 1) H fun t15 H =>
 pC call xi [t12, t1, t15] H fun t16 H =>
 ao t16 0 H fun t17 H =>
 ao t16 1 H fun _ H =>
 some (t17, H)
def a3p : Ff := ⟨fun call l H => aY (fun t0 t1 t2 => Vt call t0 t1 t2 H) l⟩
def IY (_ : aa) (t7 t16 t19 : AV) (H : AHeap) : R :=
 ai t16 t19 (.bool false) H fun t20 H =>
 pFa 2 t7 H fun t21 H =>
 ldK .none H t21 fun t22 H =>
 dG t22 (.int .u64 (.ofNat 1)) H fun t23 H =>
 aj t23 (.int .u64 (.ofNat 1)) H fun t24 H =>
 some (.tup [t20, t24], H)
def IX (call : aa) (t7 t16 t18 : AV) (H : AHeap) : R :=
 ae t16 true (aj t18 (iN 3) H fun t19 H =>
 IY call t7 t16 t19 H) (IY call t7 t16 U H)
def IW (call : aa) (t7 t16 t17 : AV) (H : AHeap) : R :=
 ae t16 true (ldK .none H t17 fun t18 H =>
 IX call t7 t16 t18 H) (IX call t7 t16 U H)
def Vs (call : aa) (t0 t1 : AV) (H : AHeap) : R :=
 pC call LJ [t0, t1] H fun t11 H =>
 ao t11 0 H fun t12 H =>
 ao t11 1 H fun t13 H =>
 ao t11 2 H fun t14 H =>
 aB [(iN 0), (iN 0), (iN 0)] H fun t6 H =>
 aB [(iN 0), (iN 0), (.int .u64 (.ofNat 0))] H fun t7 H =>
 stK 3 H t6 t12 fun _ H =>
 stK 3 H t7 t13 fun _ H =>
 ae t14 true (pFa 1 t6 H fun t17 H =>
 IW call t7 t14 t17 H) (IW call t7 t14 U H)
def a3o : Ff := ⟨fun call l H => ax (fun t0 t1 => Vs call t0 t1 H) l⟩
def Vr (_ : aa) (t0 t1 t2 : AV) (H : AHeap) : R :=
 ldK .none H t1 fun t5 H =>
 pO (af t5) H fun t6 H =>
 pFa 6 t6 H fun t7 H =>
 pFa 4 t7 H fun t8 H =>
 ldK .none H t8 fun t9 H =>
 pIa 1 t9 t0 H fun t11 H =>
 ldK .none H t11 fun t12 H =>
 ldK .none H t2 fun t13 H =>
 pO (aEq true .bool t12 t13) H fun t14 H =>
 some (t14, H)
def a3m : Ff := ⟨fun call l H => aY (fun t0 t1 t2 => Vr call t0 t1 t2 H) l⟩
def IV (_ : aa) (n : Nat) : AV → AV → AV → AV → AV → AV → AHeap → R :=
 Nat.rec (motive := fun _ => AV → AV → AV → AV → AV → AV → AHeap → R) (fun _ _ _ _ _ _ _ => none) (fun _ q0 t0 t2 t3 t6 t12 t13 H => aE t13 t12 H fun t14 H =>
 ab t14 (pO (af t0) H fun t17 H =>
 pFa 6 t17 H fun t18 H =>
 pFa 4 t18 H fun t19 H =>
 ldK .none H t19 fun t20 H =>
 ay t3 t13 H fun t23 H =>
 pIa 1 t20 t23 H fun t24 H =>
 ldK .none H t24 fun t25 H =>
 pFa 4 t6 H fun t26 H =>
 ldK .none H t26 fun t27 H =>
 ay t2 t13 H fun t30 H =>
 pIa 1 t27 t30 H fun t31 H =>
 ldK .none H t31 fun t32 H =>
 pO (aEq true .bool t25 t32) H fun t33 H =>
 ab t33 (some ((.bool false), H)) (ay t13 (iN 1) H fun t34 H =>
 q0 t0 t2 t3 t6 t12 t34 H)) (some ((.bool true), H))) n
def Vq (call : aa) (t0 t1 t2 t3 t4 : AV) (H : AHeap) : R :=
 ba t1 H fun t6 H =>
 IV call 1000000 t0 t2 t3 t6 t4 (iN 0) H
def a3l : Ff := ⟨fun call l H => w0 (fun t0 t1 t2 t3 t4 => Vq call t0 t1 t2 t3 t4 H) l⟩
def Vp (call : aa) (t0 : AV) (H : AHeap) : R :=
 aB [(.str []), (.str []), (iN 0), .nilsl] H fun t2 H =>
 pO (af t0) H fun t5 H =>
 pFa 0 t5 H fun t6 H =>
 ldK .none H t6 fun t7 H =>
 pO (aw .sl H t7) H fun t8 H =>
 pN (aM 1 1 [(.str [])] [(0, 1, (.str [124, 124]))]) H fun t11 H =>
 pC call F0 [t0, t8, (.fn ZN [t0] []), t11] H fun t12 H =>
 stK 4 H t2 t12 fun _ H =>
 ob (aD (fun o => o) [ah (.some 4) H t2]) fun vs => some (aV vs, H)
def a3k : Ff := ⟨fun call l H => az (fun t0 => Vp call t0 H) l⟩
def zg (call : aa) (t0 t2 t3 : AV) (H : AHeap) : R :=
 pC call a13 [t0, (.str [59])] H fun _ H =>
 ldK (.some 4) H t3 fun t27 H =>
 stK 4 H t2 t27 fun _ H =>
 ob (aD (fun o => o) [ah (.some 4) H t2]) fun vs => some (aV vs, H)
def Vo (call : aa) (t0 : AV) (H : AHeap) : R :=
 aB [(.str []), (.str []), (iN 0), .nilsl] H fun t2 H =>
 pC call n69 [t0, (.str [100, 111])] H fun t5 H =>
 aB [(.str []), (.str []), (iN 0), .nilsl] H fun t3 H =>
 stK 4 H t3 t5 fun _ H =>
 pC call Se [t0] H fun t7 H =>
 pN (aM 4 1 [(.str []), (.str []), (iN 0), .nilsl] [(0, 4, t7)]) H fun t8 H =>
 pFa 3 t3 H fun t9 H =>
 stK 1 H t9 t8 fun _ H =>
 pN (aM 1 1 [(.str [])] [(0, 1, (.str [61]))]) H fun t11 H =>
 pC call GZ [t0, t11] H fun t12 H =>
 ab t12 (pC call GX [t0] H fun t14 H =>
 pO (rL 2 .none t14) H fun t15 H =>
 pFa 0 t3 H fun t16 H =>
 stK 1 H t16 (.str [115, 101, 116]) fun _ H =>
 pFa 2 t3 H fun t17 H =>
 stK 1 H t17 t15 fun _ H =>
 pFa 3 t3 H fun t18 H =>
 ldK .none H t18 fun t19 H =>
 pC call Se [t0] H fun t21 H =>
 aR (aA (ckV (ah .none H t18) t19) true) (
 pN (aM 4 1 [(.str []), (.str []), (iN 0), .nilsl] [(0, 4, t21)]) H fun t22 H =>
 pW (bz 4 64 H t19 t22) fun t23 H =>
 pFa 3 t3 H fun t24 H =>
 stK 1 H t24 t23 fun _ H =>
 zg call t0 t2 t3 H)) (zg call t0 t2 t3 H)
def a3j : Ff := ⟨fun call l H => az (fun t0 => Vo call t0 H) l⟩
def IU (_ : aa) (t2 t3 : AV) (H : AHeap) : R :=
 ldK (.some 4) H t3 fun t32 H =>
 stK 4 H t2 t32 fun _ H =>
 ob (aD (fun o => o) [ah (.some 4) H t2]) fun vs => some (aV vs, H)
def IT (call : aa) (n : Nat) : AV → AV → AV → AV → AV → AHeap → R :=
 Nat.rec (motive := fun _ => AV → AV → AV → AV → AV → AHeap → R) (fun _ _ _ _ _ _ => none) (fun _ q0 t2 t3 t16 t17 t18 H => aE t18 t17 H fun t19 H =>
 ab t19 (pIa 4 t16 t18 H fun t20 H =>
 ldK (.some 4) H t20 fun t21 H =>
 aB [(.str []), (.str []), (iN 0), .nilsl] H fun t5 H =>
 stK 4 H t5 t21 fun _ H =>
 pFa 3 t3 H fun t22 H =>
 ldK .none H t22 fun t23 H =>
 pFa 3 t5 H fun t24 H =>
 ldK .none H t24 fun t25 H =>
 pIa 4 t25 (iN 0) H fun t26 H =>
 ldK (.some 4) H t26 fun t27 H =>
 pN (aM 4 1 [(.str []), (.str []), (iN 0), .nilsl] [(0, 4, t27)]) H fun t28 H =>
 pW (bz 4 64 H t23 t28) fun t29 H =>
 pFa 3 t3 H fun t30 H =>
 stK 1 H t30 t29 fun _ H =>
 ay t18 (iN 1) H fun t31 H =>
 q0 t2 t3 t16 t17 t31 H) (IU call t2 t3 H)) n
def Vn (call : aa) (t0 : AV) (H : AHeap) : R :=
 ba t0 H fun t1 H =>
 aB [(.str []), (.str []), (iN 0), .nilsl] H fun t2 H =>
 pFa 3 t1 H fun t6 H =>
 ldK .none H t6 fun t7 H =>
 pIa 4 t7 (iN 1) H fun t8 H =>
 ldK (.some 4) H t8 fun t9 H =>
 pN (aM 4 1 [(.str []), (.str []), (iN 0), .nilsl] [(0, 4, t9)]) H fun t10 H =>
 pO (au (aG [(.str []), (.str []), (iN 0), .nilsl] [(0, 1, (.str [102, 110])), (3, 1, t10)])) H fun t11 H =>
 aB [(.str []), (.str []), (iN 0), .nilsl] H fun t3 H =>
 stK 4 H t3 t11 fun _ H =>
 pFa 3 t1 H fun t12 H =>
 ldK .none H t12 fun t13 H =>
 pIa 4 t13 (iN 0) H fun t14 H =>
 pFa 3 t14 H fun t15 H =>
 ldK .none H t15 fun t16 H =>
 pO (aw .sl H t16) H fun t17 H =>
 IT call 1000000 t2 t3 t16 t17 (iN 0) H
def a3i : Ff := ⟨fun call l H => az (fun t0 => Vn call t0 H) l⟩
def Vm (call : aa) (t0 t1 t2 : AV) (H : AHeap) : R :=
 ba t1 H fun t4 H =>
 pFa 3 t4 H fun t8 H =>
 ldK .none H t8 fun t9 H =>
 pIa 4 t9 (iN 0) H fun t10 H =>
 ldK (.some 4) H t10 fun t11 H =>
 pC call LQ [t0, t11, t2] H fun _ H =>
 pFa 1 t4 H fun t14 H =>
 ldK .none H t14 fun t15 H =>
 aj t15 (.str [38, 38]) H fun t16 H =>
 ab t16 (pC call pq [t0] H fun t20 H =>
 ay t20 (iN 2) H fun t21 H =>
 pO (au (aG [(iN 0), (iN 0), (iN 0), (iN 0), (iN 0)] [(0, 1, (iN 19)), (1, 1, t2), (2, 1, t21)])) H fun t22 H =>
 pC call n86 [t0, t22] H fun _ H =>
 pO (au (aG [(iN 0), (iN 0), (iN 0), (iN 0), (iN 0)] [(0, 1, (iN 18))])) H fun t25 H =>
 pC call n86 [t0, t25] H fun t26 H =>
 pFa 3 t4 H fun t28 H =>
 ldK .none H t28 fun t29 H =>
 pIa 4 t29 (iN 1) H fun t30 H =>
 ldK (.some 4) H t30 fun t31 H =>
 pC call LQ [t0, t31, t2] H fun _ H =>
 pO (af t0) H fun t35 H =>
 pFa 4 t35 H fun t36 H =>
 ldK .none H t36 fun t37 H =>
 pC call pq [t0] H fun t40 H =>
 aR (aA (ckV (ah .none H t36) t37) true) (
 pIa 5 t37 t26 H fun t41 H =>
 pFa 1 t41 H fun t42 H =>
 stK 1 H t42 t40 fun _ H =>
 some (.tup [], H))) (pO (au (aG [(iN 0), (iN 0), (iN 0), (iN 0), (iN 0)] [(0, 1, (iN 19)), (1, 1, t2)])) H fun t45 H =>
 pC call n86 [t0, t45] H fun t46 H =>
 pFa 3 t4 H fun t48 H =>
 ldK .none H t48 fun t49 H =>
 pIa 4 t49 (iN 1) H fun t50 H =>
 ldK (.some 4) H t50 fun t51 H =>
 pC call LQ [t0, t51, t2] H fun _ H =>
 pO (af t0) H fun t55 H =>
 pFa 4 t55 H fun t56 H =>
 ldK .none H t56 fun t57 H =>
 pC call pq [t0] H fun t60 H =>
 aR (aA (ckV (ah .none H t56) t57) true) (
 pIa 5 t57 t46 H fun t61 H =>
 pFa 2 t61 H fun t62 H =>
 stK 1 H t62 t60 fun _ H =>
 some (.tup [], H)))
def a3h : Ff := ⟨fun call l H => aY (fun t0 t1 t2 => Vm call t0 t1 t2 H) l⟩
def zf (_ : aa) (t27 : AV) (H : AHeap) : R :=
 ab t27 (some ((iN 14), H)) (some ((iN 15), H))
def ze (call : aa) (t3 t24 : AV) (H : AHeap) : R :=
 ab t24 (some ((iN 13), H)) (aj t3 (.str [60, 61]) H fun t28 H =>
 ab t28 (zf call t28 H) (aj t3 (.str [62, 61]) H fun t29 H =>
 zf call t29 H))
def Vl (call : aa) (t0 : AV) (H : AHeap) : R :=
 aj t0 (.str [43]) H fun t5 H =>
 ab t5 (some ((iN 3), H)) (aj t0 (.str [45]) H fun t7 H =>
 ab t7 (some ((iN 4), H)) (aj t0 (.str [42]) H fun t9 H =>
 ab t9 (some ((iN 5), H)) (aj t0 (.str [47]) H fun t11 H =>
 ab t11 (some ((iN 6), H)) (aj t0 (.str [37]) H fun t13 H =>
 ab t13 (some ((iN 7), H)) (aj t0 (.str [38]) H fun t15 H =>
 ab t15 (some ((iN 8), H)) (aj t0 (.str [124]) H fun t17 H =>
 ab t17 (some ((iN 9), H)) (aj t0 (.str [94]) H fun t19 H =>
 ab t19 (some ((iN 10), H)) (aj t0 (.str [60, 60]) H fun t21 H =>
 ab t21 (some ((iN 11), H)) (aj t0 (.str [62, 62]) H fun t23 H =>
 ab t23 (some ((iN 12), H)) (aj t0 (.str [60]) H fun t25 H =>
 ab t25 (ze call t0 t25 H) (aj t0 (.str [62]) H fun t26 H =>
 ze call t0 t26 H)))))))))))
def a3g : Ff := ⟨fun call l H => az (fun t0 => Vl call t0 H) l⟩
def Vk (_ : aa) (t0 t1 : AV) (H : AHeap) : R :=
 ba t0 H fun t2 H =>
 pFa 1 t2 H fun t4 H =>
 ldK .none H t4 fun t5 H =>
 ldK .none H t1 fun t6 H =>
 aj t5 t6 H fun t7 H =>
 some (t7, H)
def a3f : Ff := ⟨fun call l H => ax (fun t0 t1 => Vk call t0 t1 H) l⟩
def zd (_ : aa) (q0 : AV → AV → AV → AV → AV → AHeap → R) (t0 t1 t10 t11 t12 t27 t45 : AV) (H : AHeap) : R :=
 ai t27 t45 (.bool false) H fun t46 H =>
 ab t46 (some ((.bool false), H)) (ay t12 (iN 1) H fun t47 H =>
 q0 t0 t1 t10 t11 t47 H)
def zc (call : aa) (q0 : AV → AV → AV → AV → AV → AHeap → R) (t0 t1 t10 t11 t12 t27 t35 t44 : AV) (H : AHeap) : R :=
 ae t27 true (ai t35 (.bool true) t44 H fun t45 H =>
 zd call q0 t0 t1 t10 t11 t12 t27 t45 H) (zd call q0 t0 t1 t10 t11 t12 t27 U H)
def zb (call : aa) (q0 : AV → AV → AV → AV → AV → AHeap → R) (t0 t1 t8 t9 t10 t11 t12 t27 t35 : AV) (H : AHeap) : R :=
 ae t35 false (pO (af t0) H fun t37 H =>
 pFa 2 t37 H fun t38 H =>
 ldK .none H t38 fun t39 H =>
 pIa 1 t39 t9 H fun t41 H =>
 ldK .none H t41 fun t42 H =>
 pO (aEq true .bool t42 t8) H fun t44 H =>
 zc call q0 t0 t1 t10 t11 t12 t27 t35 t44 H) (zc call q0 t0 t1 t10 t11 t12 t27 t35 U H)
def oY (call : aa) (n : Nat) : AV → AV → AV → AV → AV → AHeap → R :=
 Nat.rec (motive := fun _ => AV → AV → AV → AV → AV → AHeap → R) (fun _ _ _ _ _ _ => none) (fun _ q0 t0 t1 t10 t11 t12 H => aE t12 t11 H fun t13 H =>
 ab t13 (pIa 1 t10 t12 H fun t15 H =>
 ldK .none H t15 fun t16 H =>
 ay t1 t12 H fun t19 H =>
 pO (af t0) H fun t22 H =>
 pFa 2 t22 H fun t23 H =>
 ldK .none H t23 fun t24 H =>
 pO (aw .sl H t24) H fun t25 H =>
 aE t19 t25 H fun t26 H =>
 ae t26 true (pO (af t0) H fun t29 H =>
 pFa 3 t29 H fun t30 H =>
 ldK .none H t30 fun t31 H =>
 pIa 1 t31 t19 H fun t33 H =>
 ldK .none H t33 fun t34 H =>
 zb call q0 t0 t1 t16 t19 t10 t11 t12 t26 t34 H) (zb call q0 t0 t1 t16 t19 t10 t11 t12 t26 U H)) (some ((.bool true), H))) n
def Vj (call : aa) (t0 t1 t2 : AV) (H : AHeap) : R :=
 pO (aw .sl H t2) H fun t11 H =>
 oY call 1000000 t0 t1 t2 t11 (iN 0) H
def a3e : Ff := ⟨fun call l H => aY (fun t0 t1 t2 => Vj call t0 t1 t2 H) l⟩
def Vi (_ : aa) (t0 : AV) (H : AHeap) : R :=
 aj t0 (.int .i64 (.negSucc 0)) H fun t4 H =>
 some (t4, H)
def a3d : Ff := ⟨fun call l H => az (fun t0 => Vi call t0 H) l⟩
def IS (_ : aa) (q0 : AV → AV → AV → AV → AHeap → R) (t0 t1 t2 t6 : AV) (H : AHeap) : R :=
 ay t6 (iN 1) H fun t14 H =>
 q0 t0 t1 t2 t14 H
def z8 (call : aa) (q0 : AV → AV → AV → AV → AHeap → R) (q1 : AV → AV → AV → AV → AV → AHeap → R) (t0 t1 t2 t6 t7 t19 t29 : AV) (H : AHeap) : R :=
 ai t19 t29 (.bool false) H fun t30 H =>
 ab t30 (db t7 (iN 1) H fun t37 H =>
 db t7 (iN 1) H fun t40 H =>
 pIa 1 t0 t40 H fun t41 H =>
 ldK .none H t41 fun t42 H =>
 pIa 1 t0 t7 H fun t45 H =>
 ldK .none H t45 fun t46 H =>
 pIa 1 t0 t7 H fun t47 H =>
 stK 1 H t47 t42 fun _ H =>
 pIa 1 t0 t37 H fun t48 H =>
 stK 1 H t48 t46 fun _ H =>
 db t7 (iN 1) H fun t32 H =>
 q1 t0 t1 t2 t6 t32 H) (IS call q0 t0 t1 t2 t6 H)
def z1 (call : aa) (q0 : AV → AV → AV → AV → AHeap → R) (q1 : AV → AV → AV → AV → AV → AHeap → R) (t0 t1 t2 t6 t7 t19 t23 t28 : AV) (H : AHeap) : R :=
 ae t19 true (pC call a6W [t23, t28] H fun t29 H =>
 z8 call q0 q1 t0 t1 t2 t6 t7 t19 t29 H) (z8 call q0 q1 t0 t1 t2 t6 t7 t19 U H)
def yZ (call : aa) (q0 : AV → AV → AV → AV → AHeap → R) (q1 : AV → AV → AV → AV → AV → AHeap → R) (t0 t1 t2 t6 t7 t19 t23 t27 : AV) (H : AHeap) : R :=
 ae t19 true (ldK .none H t27 fun t28 H =>
 z1 call q0 q1 t0 t1 t2 t6 t7 t19 t23 t28 H) (z1 call q0 q1 t0 t1 t2 t6 t7 t19 t23 U H)
def yY (call : aa) (q0 : AV → AV → AV → AV → AHeap → R) (q1 : AV → AV → AV → AV → AV → AHeap → R) (t0 t1 t2 t6 t7 t19 t23 t24 t26 : AV) (H : AHeap) : R :=
 ae t19 true (pIa 1 t24 t26 H fun t27 H =>
 yZ call q0 q1 t0 t1 t2 t6 t7 t19 t23 t27 H) (yZ call q0 q1 t0 t1 t2 t6 t7 t19 t23 U H)
def yX (call : aa) (q0 : AV → AV → AV → AV → AHeap → R) (q1 : AV → AV → AV → AV → AV → AHeap → R) (t0 t1 t2 t6 t7 t19 t23 t24 t25 : AV) (H : AHeap) : R :=
 ae t19 true (db t25 (iN 1) H fun t26 H =>
 yY call q0 q1 t0 t1 t2 t6 t7 t19 t23 t24 t26 H) (yY call q0 q1 t0 t1 t2 t6 t7 t19 t23 t24 U H)
def yW (call : aa) (q0 : AV → AV → AV → AV → AHeap → R) (q1 : AV → AV → AV → AV → AV → AHeap → R) (t0 t1 t2 t6 t7 t19 t23 t24 : AV) (H : AHeap) : R :=
 ae t19 true (yX call q0 q1 t0 t1 t2 t6 t7 t19 t23 t24 t7 H) (yX call q0 q1 t0 t1 t2 t6 t7 t19 t23 t24 U H)
def yV (call : aa) (q0 : AV → AV → AV → AV → AHeap → R) (q1 : AV → AV → AV → AV → AV → AHeap → R) (t0 t1 t2 t6 t7 t19 t23 : AV) (H : AHeap) : R :=
 ae t19 true (yW call q0 q1 t0 t1 t2 t6 t7 t19 t23 t0 H) (yW call q0 q1 t0 t1 t2 t6 t7 t19 t23 U H)
def rW (call : aa) (q0 : AV → AV → AV → AV → AHeap → R) (q1 : AV → AV → AV → AV → AV → AHeap → R) (t0 t1 t2 t6 t7 t19 t22 : AV) (H : AHeap) : R :=
 ae t19 true (ldK .none H t22 fun t23 H =>
 yV call q0 q1 t0 t1 t2 t6 t7 t19 t23 H) (yV call q0 q1 t0 t1 t2 t6 t7 t19 U H)
def rV (call : aa) (q0 : AV → AV → AV → AV → AHeap → R) (q1 : AV → AV → AV → AV → AV → AHeap → R) (t0 t1 t2 t6 t7 t19 t20 t21 : AV) (H : AHeap) : R :=
 ae t19 true (pIa 1 t20 t21 H fun t22 H =>
 rW call q0 q1 t0 t1 t2 t6 t7 t19 t22 H) (rW call q0 q1 t0 t1 t2 t6 t7 t19 U H)
def rU (call : aa) (q0 : AV → AV → AV → AV → AHeap → R) (q1 : AV → AV → AV → AV → AV → AHeap → R) (t0 t1 t2 t6 t7 t19 t20 : AV) (H : AHeap) : R :=
 ae t19 true (rV call q0 q1 t0 t1 t2 t6 t7 t19 t20 t7 H) (rV call q0 q1 t0 t1 t2 t6 t7 t19 t20 U H)
def dP (call : aa) (q0 : AV → AV → AV → AV → AHeap → R) (n : Nat) : AV → AV → AV → AV → AV → AHeap → R :=
 Nat.rec (motive := fun _ => AV → AV → AV → AV → AV → AHeap → R) (fun _ _ _ _ _ _ => none) (fun _ q1 t0 t1 t2 t6 t7 H => dj t7 t1 H fun t18 H =>
 ae t18 true (rU call q0 q1 t0 t1 t2 t6 t7 t18 t0 H) (rU call q0 q1 t0 t1 t2 t6 t7 t18 U H)) n
def bu (call : aa) (n : Nat) : AV → AV → AV → AV → AHeap → R :=
 Nat.rec (motive := fun _ => AV → AV → AV → AV → AHeap → R) (fun _ _ _ _ _ => none) (fun _ q0 t0 t1 t2 t6 H => aE t6 t2 H fun t12 H =>
 ab t12 (dP call q0 1000000 t0 t1 t2 t6 t6 H) (some (.tup [], H))) n
def Nd (call : aa) (t0 t1 t2 : AV) (H : AHeap) : R :=
 ay t1 (iN 1) H fun t9 H =>
 bu call 1000000 t0 t1 t2 t9 H
def a3c : Ff := ⟨fun call l H => aY (fun t0 t1 t2 => Nd call t0 t1 t2 H) l⟩
def yU (_ : aa) (t0 t2 : AV) (H : AHeap) : R :=
 aU .u8 t0 H fun t21 H =>
 pO (jQ (.str [0, 1, 2, 2, 3, 3, 3, 3, 4, 4, 4, 4, 4, 4, 4, 4, 5, 5, 5, 5, 5, 5, 5, 5, 5, 5, 5, 5, 5, 5, 5, 5, 6, 6, 6, 6, 6, 6, 6, 6, 6, 6, 6, 6, 6, 6, 6, 6, 6, 6, 6, 6, 6, 6, 6, 6, 6, 6, 6, 6, 6, 6, 6, 6, 7, 7, 7, 7, 7, 7, 7, 7, 7, 7, 7, 7, 7, 7, 7, 7, 7, 7, 7, 7, 7, 7, 7, 7, 7, 7, 7, 7, 7, 7, 7, 7, 7, 7, 7, 7, 7, 7, 7, 7, 7, 7, 7, 7, 7, 7, 7, 7, 7, 7, 7, 7, 7, 7, 7, 7, 7, 7, 7, 7, 7, 7, 7, 7, 8, 8, 8, 8, 8, 8, 8, 8, 8, 8, 8, 8, 8, 8, 8, 8, 8, 8, 8, 8, 8, 8, 8, 8, 8, 8, 8, 8, 8, 8, 8, 8, 8, 8, 8, 8, 8, 8, 8, 8, 8, 8, 8, 8, 8, 8, 8, 8, 8, 8, 8, 8, 8, 8, 8, 8, 8, 8, 8, 8, 8, 8, 8, 8, 8, 8, 8, 8, 8, 8, 8, 8, 8, 8, 8, 8, 8, 8, 8, 8, 8, 8, 8, 8, 8, 8, 8, 8, 8, 8, 8, 8, 8, 8, 8, 8, 8, 8, 8, 8, 8, 8, 8, 8, 8, 8, 8, 8, 8, 8, 8, 8, 8, 8, 8, 8, 8, 8, 8, 8, 8, 8, 8, 8, 8, 8, 8, 8]) t21) H fun t22 H =>
 aU .i64 t22 H fun t23 H =>
 ay t2 t23 H fun t24 H =>
 some (t24, H)
def yT (call : aa) (t0 t2 : AV) (H : AHeap) : R :=
 aZ t0 (.int .u64 (.ofNat 256)) H fun t14 H =>
 ab t14 (pO (aW .shr t0 (.int .u64 (.ofNat 8))) H fun t16 H =>
 ay t2 (iN 8) H fun t18 H =>
 yU call t16 t18 H) (yU call t0 t2 H)
def yS (call : aa) (t0 t2 : AV) (H : AHeap) : R :=
 aZ t0 (.int .u64 (.ofNat 65536)) H fun t8 H =>
 ab t8 (pO (aW .shr t0 (.int .u64 (.ofNat 16))) H fun t10 H =>
 ay t2 (iN 16) H fun t12 H =>
 yT call t10 t12 H) (yT call t0 t2 H)
def Vh (call : aa) (t0 : AV) (H : AHeap) : R :=
 aZ t0 (.int .u64 (.ofNat 4294967296)) H fun t4 H =>
 ab t4 (pO (aW .shr t0 (.int .u64 (.ofNat 32))) H fun t6 H =>
 yS call t6 (iN 32) H) (yS call t0 (iN 0) H)
def a3b : Ff := ⟨fun call l H => az (fun t0 => Vh call t0 H) l⟩
def yR (_ : aa) (t0 t1 t2 t21 t28 : AV) (H : AHeap) : R :=
 ai t21 (.bool true) t28 H fun t29 H =>
 ab t29 (some (.nilp, H)) (pO (af t0) H fun t31 H =>
 pFa 0 t31 H fun t32 H =>
 ldK .none H t32 fun t33 H =>
 ay t1 t2 H fun t36 H =>
 pIa 1 t33 t36 H fun t37 H =>
 some (t37, H))
def yQ (call : aa) (t0 t1 t2 t7 t17 t19 : AV) (H : AHeap) : R :=
 ai t17 (.bool true) t19 H fun t20 H =>
 ae t20 false (pO (af t7) H fun t24 H =>
 pFa 0 t24 H fun t25 H =>
 ldK .none H t25 fun t26 H =>
 pC call kJ [t26] H fun t27 H =>
 aZ t2 t27 H fun t28 H =>
 yR call t0 t1 t2 t20 t28 H) (yR call t0 t1 t2 t20 U H)
def Vg (call : aa) (t0 t1 t2 : AV) (H : AHeap) : R :=
 pC call Sa [t0, t1] H fun t12 H =>
 ao t12 0 H fun t13 H =>
 ao t12 1 H fun _ H =>
 pO (aEq false .ptr t13 .nilp) H fun t16 H =>
 ae t16 false (aE t2 (iN 0) H fun t19 H =>
 yQ call t0 t1 t2 t13 t16 t19 H) (yQ call t0 t1 t2 t13 t16 U H)
def a3a : Ff := ⟨fun call l H => aY (fun t0 t1 t2 => Vg call t0 t1 t2 H) l⟩
def Vf (call : aa) (t0 t1 t2 : AV) (H : AHeap) : R :=
 pC call S2 [t1, t2] H fun t9 H =>
 pO (aUn .not t9) H fun t10 H =>
 ab t10 (some ((.int .u64 (.ofNat 0)), H)) (aU .u64 t1 H fun t13 H =>
 pO (aW .shr t0 t13) H fun t14 H =>
 pC call LF [t2] H fun t16 H =>
 dG t14 t16 H fun t17 H =>
 some (t17, H))
def a39 : Ff := ⟨fun call l H => aY (fun t0 t1 t2 => Vf call t0 t1 t2 H) l⟩
def yP (_ : aa) (t26 t29 : AV) (H : AHeap) : R :=
 ai t26 t29 (.bool false) H fun t30 H =>
 some (t30, H)
def yO (call : aa) (t1 t21 t24 : AV) (H : AHeap) : R :=
 ai t21 t24 (.bool false) H fun t25 H =>
 ae t25 true (pFa 2 t1 H fun t27 H =>
 ldK .none H t27 fun t28 H =>
 aE t28 (iN 65536) H fun t29 H =>
 yP call t25 t29 H) (yP call t25 U H)
def yN (call : aa) (t1 t16 t19 : AV) (H : AHeap) : R :=
 ai t16 t19 (.bool false) H fun t20 H =>
 ae t20 true (pFa 2 t1 H fun t22 H =>
 ldK .none H t22 fun t23 H =>
 aZ t23 (iN 0) H fun t24 H =>
 yO call t1 t20 t24 H) (yO call t1 t20 U H)
def yM (call : aa) (t1 t11 t14 : AV) (H : AHeap) : R :=
 ai t11 t14 (.bool false) H fun t15 H =>
 ae t15 true (pFa 1 t1 H fun t17 H =>
 ldK .none H t17 fun t18 H =>
 dv t18 (iN 3) H fun t19 H =>
 yN call t1 t15 t19 H) (yN call t1 t15 U H)
def yL (call : aa) (t1 t6 t9 : AV) (H : AHeap) : R :=
 ai t6 t9 (.bool false) H fun t10 H =>
 ae t10 true (pFa 1 t1 H fun t12 H =>
 ldK .none H t12 fun t13 H =>
 aZ t13 (iN 0) H fun t14 H =>
 yM call t1 t10 t14 H) (yM call t1 t10 U H)
def Ve (call : aa) (t0 : AV) (H : AHeap) : R :=
 ba t0 H fun t1 H =>
 pFa 0 t1 H fun t3 H =>
 ldK .none H t3 fun t4 H =>
 aZ t4 (iN 1) H fun t5 H =>
 ae t5 true (pFa 0 t1 H fun t7 H =>
 ldK .none H t7 fun t8 H =>
 dv t8 (iN 64) H fun t9 H =>
 yL call t1 t5 t9 H) (yL call t1 t5 U H)
def a38 : Ff := ⟨fun call l H => az (fun t0 => Ve call t0 H) l⟩
def yK (_ : aa) (t0 t6 t8 t19 t32 : AV) (H : AHeap) : R :=
 ai t19 (.bool true) t32 H fun t33 H =>
 ab t33 (some (.tup [.nilp, (.int .u64 (.ofNat 0))], H)) (pO (af t0) H fun t35 H =>
 pFa 1 t35 H fun t36 H =>
 ldK .none H t36 fun t37 H =>
 pIa 3 t37 t6 H fun t39 H =>
 aU .u64 t8 H fun t41 H =>
 pO (aW .shl (.int .u64 (.ofNat 1)) t41) H fun t42 H =>
 some (.tup [t39, t42], H))
def Vd (call : aa) (t0 t1 : AV) (H : AHeap) : R :=
 pC call LK [t1] H fun t10 H =>
 pC call lK [t0, t10] H fun t13 H =>
 pC call ZM [t1, t13] H fun t16 H =>
 aE t16 (iN 0) H fun t18 H =>
 ae t18 false (pO (af t0) H fun t21 H =>
 pFa 1 t21 H fun t22 H =>
 ldK .none H t22 fun t23 H =>
 pIa 3 t23 t10 H fun t25 H =>
 pFa 1 t25 H fun t26 H =>
 ldK .none H t26 fun t27 H =>
 aU .u64 t16 H fun t29 H =>
 pO (aW .shr t27 t29) H fun t30 H =>
 dG t30 (.int .u64 (.ofNat 1)) H fun t31 H =>
 aj t31 (.int .u64 (.ofNat 0)) H fun t32 H =>
 yK call t0 t10 t16 t18 t32 H) (yK call t0 t10 t16 t18 U H)
def a37 : Ff := ⟨fun call l H => ax (fun t0 t1 => Vd call t0 t1 H) l⟩
def yI (_ : aa) (q0 : AV → AV → AV → AV → AV → AHeap → R) (t0 t6 t94 t95 t96 : AV) (H : AHeap) : R :=
 ay t96 (iN 1) H fun t118 H =>
 q0 t0 t6 t94 t95 t118 H
def yJ (call : aa) (n : Nat) : AV → AV → AV → AV → AV → AHeap → R :=
 Nat.rec (motive := fun _ => AV → AV → AV → AV → AV → AHeap → R) (fun _ _ _ _ _ _ => none) (fun _ q0 t0 t6 t94 t95 t96 H => aE t96 t95 H fun t97 H =>
 ab t97 (pIa 1 t94 t96 H fun t99 H =>
 ldK .none H t99 fun t100 H =>
 ab t100 (pC call LP [t0, t96] H fun _ H =>
 pO (af t0) H fun t106 H =>
 pFa 0 t106 H fun t107 H =>
 ldK .none H t107 fun t108 H =>
 pC call lK [t108, t96] H fun t110 H =>
 aj t110 (.int .i64 (.negSucc 0)) H fun t111 H =>
 ab t111 (pC call S0 [t0, t96, t6] H fun t115 H =>
 ao t115 0 H fun t116 H =>
 ao t115 1 H fun t117 H =>
 some (.tup [t116, t117], H)) (yI call q0 t0 t6 t94 t95 t96 H)) (yI call q0 t0 t6 t94 t95 t96 H)) (some (.tup [(iN 0), (iN 5)], H))) n
def IQ (call : aa) (t0 t6 : AV) (H : AHeap) : R :=
 pO (af t0) H fun t92 H =>
 pFa 1 t92 H fun t93 H =>
 ldK .none H t93 fun t94 H =>
 pO (aw .sl H t94) H fun t95 H =>
 yJ call 1000000 t0 t6 t94 t95 (iN 0) H
def IP (call : aa) (n : Nat) : AV → AV → AV → AHeap → R :=
 Nat.rec (motive := fun _ => AV → AV → AV → AHeap → R) (fun _ _ _ _ => none) (fun _ q1 t0 t6 t8 H => pO (af t0) H fun t71 H =>
 pFa 1 t71 H fun t72 H =>
 ldK .none H t72 fun t73 H =>
 pO (aw .sl H t73) H fun t74 H =>
 aE t8 t74 H fun t75 H =>
 ab t75 (pO (af t0) H fun t79 H =>
 pFa 0 t79 H fun t80 H =>
 ldK .none H t80 fun t81 H =>
 pC call lK [t81, t8] H fun t83 H =>
 aj t83 (.int .i64 (.negSucc 0)) H fun t84 H =>
 ab t84 (pC call S0 [t0, t8, t6] H fun t88 H =>
 ao t88 0 H fun t89 H =>
 ao t88 1 H fun t90 H =>
 some (.tup [t89, t90], H)) (ay t8 (iN 1) H fun t77 H =>
 q1 t0 t6 t77 H)) (IQ call t0 t6 H)) n
def yH (_ : aa) (q2 : AV → AV → AV → AV → AHeap → R) (t0 t6 t19 t20 : AV) (H : AHeap) : R :=
 ay t20 (iN 1) H fun t68 H =>
 q2 t0 t6 t19 t68 H
def yG (call : aa) (q2 : AV → AV → AV → AV → AHeap → R) (t0 t6 t7 t19 t20 t49 t58 : AV) (H : AHeap) : R :=
 ai t49 t58 (.bool false) H fun t59 H =>
 ab t59 (pO (af t0) H fun t61 H =>
 pFa 0 t61 H fun t62 H =>
 ldK .none H t62 fun t63 H =>
 pC call S1 [t63, t7] H fun t65 H =>
 ao t65 0 H fun t66 H =>
 ao t65 1 H fun t67 H =>
 some (.tup [t66, t67], H)) (yH call q2 t0 t6 t19 t20 H)
def yF (call : aa) (q2 : AV → AV → AV → AV → AHeap → R) (t0 t6 t7 t19 t20 : AV) (H : AHeap) : R :=
 pO (af t0) H fun t42 H =>
 pFa 0 t42 H fun t43 H =>
 ldK .none H t43 fun t44 H =>
 pC call lK [t44, t7] H fun t46 H =>
 aj t46 t6 H fun t48 H =>
 ae t48 true (pO (af t0) H fun t51 H =>
 pFa 0 t51 H fun t52 H =>
 ldK .none H t52 fun t53 H =>
 pC call Ss [t53, t7] H fun t55 H =>
 pC call ZK [t6] H fun t57 H =>
 aQ t55 t57 H fun t58 H =>
 yG call q2 t0 t6 t7 t19 t20 t48 t58 H) (yG call q2 t0 t6 t7 t19 t20 t48 U H)
def oX (call : aa) (n : Nat) : AV → AV → AV → AV → AHeap → R :=
 Nat.rec (motive := fun _ => AV → AV → AV → AV → AHeap → R) (fun _ _ _ _ _ => none) (fun _ q2 t0 t6 t19 t20 H => aE t20 t19 H fun t21 H =>
 ab t21 (pO (af t0) H fun t24 H =>
 pFa 0 t24 H fun t25 H =>
 ldK .none H t25 fun t26 H =>
 pC call lK [t26, t20] H fun t28 H =>
 aQ t28 t6 H fun t30 H =>
 ab t30 (yH call q2 t0 t6 t19 t20 H) (pO (af t0) H fun t32 H =>
 pFa 1 t32 H fun t33 H =>
 ldK .none H t33 fun t34 H =>
 pIa 1 t34 t20 H fun t36 H =>
 ldK .none H t36 fun t37 H =>
 ab t37 (pC call LP [t0, t20] H fun _ H =>
 yF call q2 t0 t6 t20 t19 t20 H) (yF call q2 t0 t6 t20 t19 t20 H))) (IP call 1000000 t0 t6 (iN 1) H)) n
def Vc (call : aa) (t0 t1 : AV) (H : AHeap) : R :=
 pC call ZL [t1] H fun t12 H =>
 aj t12 (.int .i64 (.negSucc 0)) H fun t14 H =>
 ab t14 (some (.tup [(iN 0), (iN 1)], H)) (pO (af t0) H fun t16 H =>
 pFa 1 t16 H fun t17 H =>
 ldK .none H t17 fun t18 H =>
 pO (aw .sl H t18) H fun t19 H =>
 oX call 1000000 t0 t12 t19 (iN 0) H)
def a34 : Ff := ⟨fun call l H => ax (fun t0 t1 => Vc call t0 t1 H) l⟩
def yE (_ : aa) (t15 t19 : AV) (H : AHeap) : R :=
 ai t15 t19 (.bool false) H fun t20 H =>
 some (t20, H)
def yD (call : aa) (t0 t1 t11 t13 : AV) (H : AHeap) : R :=
 ai t11 t13 (.bool false) H fun t14 H =>
 ae t14 true (db (iN 64) t1 H fun t18 H =>
 dv t0 t18 H fun t19 H =>
 yE call t14 t19 H) (yE call t14 U H)
def yC (call : aa) (t0 t1 t7 t9 : AV) (H : AHeap) : R :=
 ai t7 t9 (.bool false) H fun t10 H =>
 ae t10 true (dv t1 (iN 64) H fun t13 H =>
 yD call t0 t1 t10 t13 H) (yD call t0 t1 t10 U H)
def Vb (call : aa) (t0 t1 : AV) (H : AHeap) : R :=
 aZ t0 (iN 0) H fun t6 H =>
 ae t6 true (aZ t1 (iN 0) H fun t9 H =>
 yC call t0 t1 t6 t9 H) (yC call t0 t1 t6 U H)
def a31 : Ff := ⟨fun call l H => ax (fun t0 t1 => Vb call t0 t1 H) l⟩
def Va (_ : aa) (t0 : AV) (H : AHeap) : R :=
 aU .u64 t0 H fun t4 H =>
 pO (aW .shl (.int .u64 (.ofNat 1)) t4) H fun t5 H =>
 db t5 (.int .u64 (.ofNat 1)) H fun t6 H =>
 some (t6, H)
def a30 : Ff := ⟨fun call l H => az (fun t0 => Va call t0 H) l⟩
end
noncomputable section
set_option maxRecDepth 100000
def IN (_ : aa) (t8 t9 : AV) (H : AHeap) : R :=
 ldK (.some 4) H t9 fun t35 H =>
 stK 4 H t8 t35 fun _ H =>
 ob (aD (fun o => o) [ah (.some 4) H t8]) fun vs => some (aV vs, H)
def yA (call : aa) (q0 : AV → AV → AV → AV → AV → AV → AV → AHeap → R) (t0 t1 t2 t3 t8 t9 t10 t17 t20 : AV) (H : AHeap) : R :=
 ai t17 t20 (.bool false) H fun t21 H =>
 ab t21 (pC call GX [t0] H fun t25 H =>
 aB [(iN 0), (.str []), (iN 0)] H fun t11 H =>
 stK 3 H t11 t25 fun _ H =>
 pFa 1 t11 H fun t26 H =>
 ldK .none H t26 fun t27 H =>
 pFa 2 t11 H fun t28 H =>
 ldK .none H t28 fun t29 H =>
 ldK (.some 4) H t9 fun t30 H =>
 pV call t2 [] H fun t32 H =>
 aR (aA (ckV (ah .none H t26) t27) (aA (ckV (ah .none H t28) t29) (aA (ckV (ah (.some 4) H t9) t30) true))) (
 pN (aM 4 2 [(.str []), (.str []), (iN 0), .nilsl] [(0, 4, t30), (4, 4, t32)]) H fun t33 H =>
 pO (au (aG [(.str []), (.str []), (iN 0), .nilsl] [(0, 1, (.str [98, 105, 110, 97, 114, 121])), (1, 1, t27), (2, 1, t29), (3, 1, t33)])) H fun t34 H =>
 stK 4 H t9 t34 fun _ H =>
 ay t10 (iN 1) H fun t23 H =>
 q0 t0 t1 t2 t3 t8 t9 t23 H)) (IN call t8 t9 H)
def yB (call : aa) (n : Nat) : AV → AV → AV → AV → AV → AV → AV → AHeap → R :=
 Nat.rec (motive := fun _ => AV → AV → AV → AV → AV → AV → AV → AHeap → R) (fun _ _ _ _ _ _ _ _ => none) (fun _ q0 t0 t1 t2 t3 t8 t9 t10 H => pC call GZ [t0, t3] H fun t16 H =>
 ae t16 true (aE t10 t1 H fun t20 H =>
 yA call q0 t0 t1 t2 t3 t8 t9 t10 t16 t20 H) (yA call q0 t0 t1 t2 t3 t8 t9 t10 t16 U H)) n
def V9 (call : aa) (t0 t1 t2 t3 : AV) (H : AHeap) : R :=
 aB [(.str []), (.str []), (iN 0), .nilsl] H fun t8 H =>
 pV call t2 [] H fun t13 H =>
 aB [(.str []), (.str []), (iN 0), .nilsl] H fun t9 H =>
 stK 4 H t9 t13 fun _ H =>
 yB call 1000000 t0 t1 t2 t3 t8 t9 (iN 0) H
def a2Z : Ff := ⟨fun call l H => dh (fun t0 t1 t2 t3 => V9 call t0 t1 t2 t3 H) l⟩
def V7 (call : aa) (t0 : AV) (H : AHeap) : R :=
 aB [(.str []), (.str []), (iN 0), .nilsl] H fun t2 H =>
 pO (af t0) H fun t5 H =>
 pFa 0 t5 H fun t6 H =>
 ldK .none H t6 fun t7 H =>
 pO (aw .sl H t7) H fun t8 H =>
 pN (aM 1 1 [(.str [])] [(0, 1, (.str [38, 38]))]) H fun t11 H =>
 pC call F0 [t0, t8, (.fn ZJ [t0] []), t11] H fun t12 H =>
 stK 4 H t2 t12 fun _ H =>
 ob (aD (fun o => o) [ah (.some 4) H t2]) fun vs => some (aV vs, H)
def a2X : Ff := ⟨fun call l H => az (fun t0 => V7 call t0 H) l⟩
def yz (call : aa) (t0 t1 t9 t12 : AV) (H : AHeap) : R :=
 ai t9 (.bool true) t12 H fun t13 H =>
 ab t13 (some ((.int .i64 (.negSucc 0)), H)) (pO (aW .rem t0 (iN 64)) H fun t15 H =>
 pC call kJ [t1] H fun t18 H =>
 pO (aW .rem t15 t18) H fun t19 H =>
 aQ t19 (iN 0) H fun t20 H =>
 ab t20 (some ((.int .i64 (.negSucc 0)), H)) (pC call kJ [t1] H fun t23 H =>
 pO (aW .quo t15 t23) H fun t24 H =>
 some (t24, H)))
def V5 (call : aa) (t0 t1 : AV) (H : AHeap) : R :=
 pC call kJ [t1] H fun t7 H =>
 aj t7 (iN 0) H fun t8 H =>
 ae t8 false (pC call LK [t0] H fun t11 H =>
 aj t11 (.int .i64 (.negSucc 0)) H fun t12 H =>
 yz call t0 t1 t8 t12 H) (yz call t0 t1 t8 U H)
def a2W : Ff := ⟨fun call l H => ax (fun t0 t1 => V5 call t0 t1 H) l⟩
def yx (_ : aa) (q0 : AV → AV → AHeap → R) (t0 t3 t4 t9 t13 : AV) (H : AHeap) : R :=
 ai t9 t13 (.bool false) H fun t14 H =>
 ab t14 (some (t3, H)) (ay t4 (iN 1) H fun t16 H =>
 q0 t0 t16 H)
def yy (call : aa) (n : Nat) : AV → AV → AHeap → R :=
 Nat.rec (motive := fun _ => AV → AV → AHeap → R) (fun _ _ _ => none) (fun _ q0 t0 t4 H => aE t4 (iN 6) H fun t5 H =>
 ab t5 (aZ t0 (iN 1) H fun t8 H =>
 ae t8 true (pC call kJ [t4] H fun t12 H =>
 dv t0 t12 H fun t13 H =>
 yx call q0 t0 t4 t4 t8 t13 H) (yx call q0 t0 t4 t4 t8 U H)) (some ((.int .i64 (.negSucc 0)), H))) n
def a2V : Ff := ⟨fun call l H => az (fun t0 => yy call 1000000 t0 (iN 0) H) l⟩
def V4 (call : aa) (t0 : AV) (H : AHeap) : R :=
 pC call LD [t0] H fun t4 H =>
 pC call LH [(.int .u64 (.ofNat 0)), (iN 0), t4, (.int .u64 (.ofNat 18446744073709551615))] H fun t5 H =>
 some (t5, H)
def a2U : Ff := ⟨fun call l H => az (fun t0 => V4 call t0 H) l⟩
def V3 (call : aa) (t0 t1 : AV) (H : AHeap) : R :=
 pC call lK [t0, t1] H fun t12 H =>
 aj t12 (.int .i64 (.negSucc 0)) H fun t14 H =>
 ab t14 (some (.tup [(iN 0), (iN 4)], H)) (pO (af t0) H fun t16 H =>
 pFa 1 t16 H fun t17 H =>
 ldK .none H t17 fun t18 H =>
 pIa 3 t18 t1 H fun t20 H =>
 pO (af t20) H fun t22 H =>
 pFa 1 t22 H fun t23 H =>
 ldK .none H t23 fun t24 H =>
 pC call ZI [t24] H fun t25 H =>
 pC call LD [t12] H fun t28 H =>
 aZ t25 t28 H fun t29 H =>
 ab t29 (some (.tup [(iN 0), (iN 5)], H)) (pO (af t20) H fun t31 H =>
 pFa 1 t31 H fun t32 H =>
 ldK .none H t32 fun t33 H =>
 aU .u64 t25 H fun t35 H =>
 pO (aW .shl (.int .u64 (.ofNat 1)) t35) H fun t36 H =>
 pOr t33 t36 H fun t37 H =>
 pO (af t20) H fun t38 H =>
 pFa 1 t38 H fun t39 H =>
 stK 1 H t39 t37 fun _ H =>
 pO (af t20) H fun t41 H =>
 pFa 2 t41 H fun t42 H =>
 ldK .none H t42 fun t43 H =>
 aU .u64 t25 H fun t45 H =>
 pO (aW .shl (.int .u64 (.ofNat 1)) t45) H fun t46 H =>
 jl t43 t46 H fun t47 H =>
 pO (af t20) H fun t48 H =>
 pFa 2 t48 H fun t49 H =>
 stK 1 H t49 t47 fun _ H =>
 pC call ZH [t1, t25, t12] H fun t53 H =>
 pO (af t0) H fun t55 H =>
 pFa 0 t55 H fun t56 H =>
 ldK .none H t56 fun t57 H =>
 pC call kJ [t12] H fun t61 H =>
 aR (aA (ckV (ah .none H t56) t57) true) (
 ay t53 t61 H fun t62 H =>
 pO (bT 1 H t57 (.some t53) (.some t62) .none) H fun t63 H =>
 pW (cG (fU [(iN 0)] H t63)) fun _ H =>
 some (.tup [t53, (iN 0)], H))))
def a2T : Ff := ⟨fun call l H => ax (fun t0 t1 => V3 call t0 t1 H) l⟩
def V2 (call : aa) (t0 t1 t2 : AV) (H : AHeap) : R :=
 pO (af t0) H fun t9 H =>
 pFa 1 t9 H fun t10 H =>
 ldK .none H t10 fun t11 H =>
 pIa 1 t11 t1 H fun t13 H =>
 stK 1 H t13 (.bool false) fun _ H =>
 pO (af t0) H fun t15 H =>
 pFa 0 t15 H fun t16 H =>
 ldK .none H t16 fun t17 H =>
 pC call ZG [t17, t1, t2] H fun _ H =>
 pO (af t0) H fun t22 H =>
 pFa 0 t22 H fun t23 H =>
 ldK .none H t23 fun t24 H =>
 pC call S1 [t24, t1] H fun t26 H =>
 ao t26 0 H fun t27 H =>
 ao t26 1 H fun t28 H =>
 some (.tup [t27, t28], H)
def a2S : Ff := ⟨fun call l H => aY (fun t0 t1 t2 => V2 call t0 t1 t2 H) l⟩
def V1 (call : aa) (t0 : AV) (H : AHeap) : R :=
 aB [(.str []), (.str []), (iN 0), .nilsl] H fun t2 H =>
 pN (aM 1 6 [(.str [])] [(0, 1, (.str [61, 61])), (1, 1, (.str [33, 61])), (2, 1, (.str [60])), (3, 1, (.str [60, 61])), (4, 1, (.str [62])), (5, 1, (.str [62, 61]))]) H fun t6 H =>
 pC call F0 [t0, (iN 1), (.fn ZF [t0] []), t6] H fun t7 H =>
 stK 4 H t2 t7 fun _ H =>
 ob (aD (fun o => o) [ah (.some 4) H t2]) fun vs => some (aV vs, H)
def a2R : Ff := ⟨fun call l H => az (fun t0 => V1 call t0 H) l⟩
def UZ (call : aa) (t0 : AV) (H : AHeap) : R :=
 pC call kJ [t0] H fun t4 H =>
 aj t4 (iN 0) H fun t5 H =>
 ab t5 (some ((iN 0), H)) (pC call kJ [t0] H fun t7 H =>
 pO (aW .quo (iN 64) t7) H fun t8 H =>
 some (t8, H))
def a2P : Ff := ⟨fun call l H => az (fun t0 => UZ call t0 H) l⟩
def UY (call : aa) (t0 : AV) (H : AHeap) : R :=
 pO (aUn .xor t0) H fun t4 H =>
 pC call ZE [t4] H fun t5 H =>
 some (t5, H)
def a2O : Ff := ⟨fun call l H => az (fun t0 => UY call t0 H) l⟩
def yw (call : aa) (t0 t1 t2 t17 t21 : AV) (H : AHeap) : R :=
 ai t17 (.bool true) t21 H fun t22 H =>
 ab t22 (some ((iN 0), H)) (kC t0 (iN 64) H fun t24 H =>
 pC call kJ [t2] H fun t27 H =>
 kC t1 t27 H fun t28 H =>
 ay t24 t28 H fun t29 H =>
 some (t29, H))
def yu (call : aa) (t0 t1 t2 t13 t15 : AV) (H : AHeap) : R :=
 ai t13 (.bool true) t15 H fun t16 H =>
 ae t16 false (pC call LD [t2] H fun t20 H =>
 aZ t1 t20 H fun t21 H =>
 yw call t0 t1 t2 t16 t21 H) (yw call t0 t1 t2 t16 U H)
def yr (call : aa) (t0 t1 t2 t9 t11 : AV) (H : AHeap) : R :=
 ai t9 (.bool true) t11 H fun t12 H =>
 ae t12 false (aE t1 (iN 0) H fun t15 H =>
 yu call t0 t1 t2 t12 t15 H) (yu call t0 t1 t2 t12 U H)
def UX (call : aa) (t0 t1 t2 : AV) (H : AHeap) : R :=
 aE t0 (iN 1) H fun t8 H =>
 ae t8 false (aZ t0 (iN 512) H fun t11 H =>
 yr call t0 t1 t2 t8 t11 H) (yr call t0 t1 t2 t8 U H)
def a2N : Ff := ⟨fun call l H => aY (fun t0 t1 t2 => UX call t0 t1 t2 H) l⟩
def yq (_ : aa) (t0 t1 t2 t12 t15 : AV) (H : AHeap) : R :=
 ai t12 (.bool true) t15 H fun t16 H =>
 ab t16 (some ((iN 1), H)) (pO (af t0) H fun t19 H =>
 pFa 1 t19 H fun t20 H =>
 ldK .none H t20 fun t21 H =>
 pIa 3 t21 t1 H fun t23 H =>
 pFa 0 t23 H fun t24 H =>
 ldK .none H t24 fun t25 H =>
 aQ t25 (.int .i64 (.negSucc 0)) H fun t26 H =>
 ab t26 (some ((iN 5), H)) (pO (af t0) H fun t28 H =>
 pFa 1 t28 H fun t29 H =>
 ldK .none H t29 fun t30 H =>
 pO (au (aG [(iN 0), (.int .u64 (.ofNat 0)), (.int .u64 (.ofNat 0))] [(0, 1, t2)])) H fun t33 H =>
 pIa 3 t30 t1 H fun t34 H =>
 stK 3 H t34 t33 fun _ H =>
 some ((iN 0), H)))
def UW (call : aa) (t0 t1 t2 : AV) (H : AHeap) : R :=
 pC call Sh [t0, t1] H fun t10 H =>
 pO (aUn .not t10) H fun t11 H =>
 ae t11 false (pC call kJ [t2] H fun t14 H =>
 aj t14 (iN 0) H fun t15 H =>
 yq call t0 t1 t2 t11 t15 H) (yq call t0 t1 t2 t11 U H)
def a2M : Ff := ⟨fun call l H => aY (fun t0 t1 t2 => UW call t0 t1 t2 H) l⟩
def UT (call : aa) (t0 : AV) (H : AHeap) : R :=
 aB [(.str []), (.str []), (iN 0), .nilsl] H fun t2 H =>
 pO (af t0) H fun t5 H =>
 pFa 0 t5 H fun t6 H =>
 ldK .none H t6 fun t7 H =>
 pO (aw .sl H t7) H fun t8 H =>
 pN (aM 1 4 [(.str [])] [(0, 1, (.str [43])), (1, 1, (.str [45])), (2, 1, (.str [124])), (3, 1, (.str [94]))]) H fun t11 H =>
 pC call F0 [t0, t8, (.fn ZD [t0] []), t11] H fun t12 H =>
 stK 4 H t2 t12 fun _ H =>
 ob (aD (fun o => o) [ah (.some 4) H t2]) fun vs => some (aV vs, H)
def a2K : Ff := ⟨fun call l H => az (fun t0 => UT call t0 H) l⟩
def US (_ : aa) (t0 : AV) (H : AHeap) : R :=
 aj t0 (.int .u64 (.ofNat 0)) H fun t4 H =>
 ab t4 (some ((iN 64), H)) (pO (aUn .neg t0) H fun t7 H =>
 dG t0 t7 H fun t8 H =>
 kC t8 (.int .u64 (.ofNat 285870213051353865)) H fun t9 H =>
 pO (aW .shr t9 (.int .u64 (.ofNat 58))) H fun t10 H =>
 Zt 1 64 (.ptr 3 0) t10 H fun t11 H =>
 ldK .none H t11 fun t12 H =>
 aU .i64 t12 H fun t13 H =>
 some (t13, H))
def a2J : Ff := ⟨fun call l H => az (fun t0 => US call t0 H) l⟩
def UQ (call : aa) (t0 : AV) (H : AHeap) : R :=
 aB [(.str []), (.str []), (iN 0), .nilsl] H fun t2 H =>
 pO (af t0) H fun t5 H =>
 pFa 0 t5 H fun t6 H =>
 ldK .none H t6 fun t7 H =>
 pO (aw .sl H t7) H fun t8 H =>
 pN (aM 1 6 [(.str [])] [(0, 1, (.str [42])), (1, 1, (.str [47])), (2, 1, (.str [37])), (3, 1, (.str [60, 60])), (4, 1, (.str [62, 62])), (5, 1, (.str [38]))]) H fun t11 H =>
 pC call F0 [t0, t8, (.fn a6U [t0] []), t11] H fun t12 H =>
 stK 4 H t2 t12 fun _ H =>
 ob (aD (fun o => o) [ah (.some 4) H t2]) fun vs => some (aV vs, H)
def a2H : Ff := ⟨fun call l H => az (fun t0 => UQ call t0 H) l⟩
def yp (_ : aa) (q0 : AV → AV → AV → AV → AV → AHeap → R) (t0 t3 t9 t10 t11 : AV) (H : AHeap) : R :=
 ay t11 (iN 1) H fun t32 H =>
 q0 t0 t3 t9 t10 t32 H
def yo (call : aa) (q0 : AV → AV → AV → AV → AV → AHeap → R) (t0 t3 t5 t9 t10 t11 t24 t26 : AV) (H : AHeap) : R :=
 ai t24 t26 (.bool false) H fun t27 H =>
 ab t27 (pN (aM 1 1 [(iN 0)] [(0, 1, t5)]) H fun t30 H =>
 pW (bz 1 8 H t3 t30) fun t31 H =>
 yp call q0 t0 t31 t9 t10 t11 H) (yp call q0 t0 t3 t9 t10 t11 H)
def rT (call : aa) (n : Nat) : AV → AV → AV → AV → AV → AHeap → R :=
 Nat.rec (motive := fun _ => AV → AV → AV → AV → AV → AHeap → R) (fun _ _ _ _ _ _ => none) (fun _ q0 t0 t3 t9 t10 t11 H => aE t11 t10 H fun t12 H =>
 ab t12 (pIa 1 t9 t11 H fun t14 H =>
 ldK .none H t14 fun t15 H =>
 pO (af t0) H fun t17 H =>
 pFa 0 t17 H fun t18 H =>
 pFa 1 t18 H fun t19 H =>
 ldK .none H t19 fun t20 H =>
 pIa 1 t20 t11 H fun t22 H =>
 ldK .none H t22 fun t23 H =>
 ae t23 true (aQ t15 (iN 0) H fun t26 H =>
 yo call q0 t0 t3 t15 t9 t10 t11 t23 t26 H) (yo call q0 t0 t3 t15 t9 t10 t11 t23 U H)) (some (t3, H))) n
def UN (call : aa) (t0 : AV) (H : AHeap) : R :=
 pO (af t0) H fun t7 H =>
 pFa 8 t7 H fun t8 H =>
 ldK .none H t8 fun t9 H =>
 pO (aw .sl H t9) H fun t10 H =>
 rT call 1000000 t0 .nilsl t9 t10 (iN 0) H
def a2C : Ff := ⟨fun call l H => az (fun t0 => UN call t0 H) l⟩
def UM (call : aa) (t0 t1 : AV) (H : AHeap) : R :=
 pO (af t0) H fun t7 H =>
 pFa 7 t7 H fun t8 H =>
 ldK .none H t8 fun t9 H =>
 pC call LV [t9, t1] H fun t11 H =>
 pO (aEq false .ptr t11 .nilp) H fun t13 H =>
 ab t13 (some (.nilsl, H)) (pO (af t0) H fun t16 H =>
 pFa 0 t16 H fun t17 H =>
 ldK (.some 6) H t17 fun t18 H =>
 pC call ZC [t11, t18] H fun t19 H =>
 some (t19, H))
def a2B : Ff := ⟨fun call l H => ax (fun t0 t1 => UM call t0 t1 H) l⟩
def UL (call : aa) (t0 : AV) (H : AHeap) : R :=
 pO (af t0) H fun t4 H =>
 pFa 7 t4 H fun t5 H =>
 ldK .none H t5 fun t6 H =>
 pC call SD [t6] H fun t7 H =>
 some (t7, H)
def a2A : Ff := ⟨fun call l H => az (fun t0 => UL call t0 H) l⟩
def rS (_ : aa) (q0 : AV → AV → AV → AV → AV → AHeap → R) (t3 t5 t14 t15 t16 : AV) (H : AHeap) : R :=
 ay t16 (iN 1) H fun t70 H =>
 q0 t3 t5 t14 t15 t70 H
def yn (_ : aa) (q1 : AV → AV → AV → AV → AV → AV → AV → AV → AV → AV → AHeap → R) (t3 t5 t7 t8 t14 t15 t16 t44 t45 t46 : AV) (H : AHeap) : R :=
 ay t46 (iN 1) H fun t69 H =>
 q1 t3 t5 t7 t8 t14 t15 t16 t44 t45 t69 H
def ym (call : aa) (q1 : AV → AV → AV → AV → AV → AV → AV → AV → AV → AV → AHeap → R) (t3 t5 t7 t8 t10 t14 t15 t16 t44 t45 t46 t61 t63 : AV) (H : AHeap) : R :=
 ai t61 t63 (.bool false) H fun t64 H =>
 ab t64 (pN (aM 1 1 [(iN 0)] [(0, 1, t10)]) H fun t67 H =>
 pW (bz 1 8 H t5 t67) fun t68 H =>
 yn call q1 t3 t68 t7 t8 t14 t15 t16 t44 t45 t46 H) (yn call q1 t3 t5 t7 t8 t14 t15 t16 t44 t45 t46 H)
def rR (call : aa) (q0 : AV → AV → AV → AV → AV → AHeap → R) (n : Nat) : AV → AV → AV → AV → AV → AV → AV → AV → AV → AV → AHeap → R :=
 Nat.rec (motive := fun _ => AV → AV → AV → AV → AV → AV → AV → AV → AV → AV → AHeap → R) (fun _ _ _ _ _ _ _ _ _ _ _ => none) (fun _ q1 t3 t5 t7 t8 t14 t15 t16 t44 t45 t46 H => aE t46 t45 H fun t47 H =>
 ab t47 (pIa 1 t44 t46 H fun t49 H =>
 ldK .none H t49 fun t50 H =>
 pFa 1 t7 H fun t52 H =>
 ldK .none H t52 fun t53 H =>
 pIa 1 t8 t53 H fun t54 H =>
 ldK .none H t54 fun t55 H =>
 aU .u64 t46 H fun t57 H =>
 pO (aW .shr t55 t57) H fun t58 H =>
 dG t58 (.int .u64 (.ofNat 1)) H fun t59 H =>
 aj t59 (.int .u64 (.ofNat 1)) H fun t60 H =>
 ae t60 true (aQ t50 (iN 0) H fun t63 H =>
 ym call q1 t3 t5 t7 t8 t50 t14 t15 t16 t44 t45 t46 t60 t63 H) (ym call q1 t3 t5 t7 t8 t50 t14 t15 t16 t44 t45 t46 t60 U H)) (rS call q0 t3 t5 t14 t15 t16 H)) n
def yl (call : aa) (q0 : AV → AV → AV → AV → AV → AHeap → R) (t3 t5 t7 t8 t14 t15 t16 t36 t41 : AV) (H : AHeap) : R :=
 ai t36 (.bool true) t41 H fun t42 H =>
 ab t42 (rS call q0 t3 t5 t14 t15 t16 H) (pFa 2 t7 H fun t43 H =>
 ldK .none H t43 fun t44 H =>
 pO (aw .sl H t44) H fun t45 H =>
 rR call q0 1000000 t3 t5 t7 t8 t14 t15 t16 t44 t45 (iN 0) H)
def j2 (call : aa) (n : Nat) : AV → AV → AV → AV → AV → AHeap → R :=
 Nat.rec (motive := fun _ => AV → AV → AV → AV → AV → AHeap → R) (fun _ _ _ _ _ _ => none) (fun _ q0 t3 t5 t14 t15 t16 H => aE t16 t15 H fun t17 H =>
 ab t17 (pIa 3 t14 t16 H fun t18 H =>
 ldK (.some 3) H t18 fun t19 H =>
 aB [(iN 0), (iN 0), .nilsl] H fun t7 H =>
 stK 3 H t7 t19 fun _ H =>
 pFa 0 t7 H fun t20 H =>
 ldK .none H t20 fun t21 H =>
 pFa 4 t3 H fun t22 H =>
 ldK .none H t22 fun t23 H =>
 pO (aw .sl H t23) H fun t24 H =>
 aZ t21 t24 H fun t25 H =>
 ab t25 (rS call q0 t3 t5 t14 t15 t16 H) (pFa 4 t3 H fun t26 H =>
 ldK .none H t26 fun t27 H =>
 pFa 0 t7 H fun t28 H =>
 ldK .none H t28 fun t29 H =>
 pIa 7 t27 t29 H fun t30 H =>
 pFa 6 t30 H fun t31 H =>
 ldK .none H t31 fun t32 H =>
 pFa 1 t7 H fun t33 H =>
 ldK .none H t33 fun t34 H =>
 aE t34 (iN 0) H fun t35 H =>
 ae t35 false (pFa 1 t7 H fun t37 H =>
 ldK .none H t37 fun t38 H =>
 pO (aw .sl H t32) H fun t40 H =>
 aZ t38 t40 H fun t41 H =>
 yl call q0 t3 t5 t7 t32 t14 t15 t16 t35 t41 H) (yl call q0 t3 t5 t7 t32 t14 t15 t16 t35 U H))) (some (t5, H))) n
def UK (call : aa) (t0 t1 : AV) (H : AHeap) : R :=
 ba t1 H fun t3 H =>
 pO (af t0) H fun t12 H =>
 pFa 0 t12 H fun t13 H =>
 ldK .none H t13 fun t14 H =>
 pO (aw .sl H t14) H fun t15 H =>
 j2 call 1000000 t3 .nilsl t14 t15 (iN 0) H
def a2z : Ff := ⟨fun call l H => ax (fun t0 t1 => UK call t0 t1 H) l⟩
end
noncomputable section
set_option maxRecDepth 100000
def rQ : List (Option Ff) := [none, none, none, some S3, some S4, some S5, some S6, some S7, some S8, some S9, some S10, some S11, none, some S13, some S14, none, some S16, some S17, none, none, none, none, some S22, none, some S24, some S25, none, none, none, some S29, none, some S31, none, some S33, none, none, none, none, none, none, none, none, none, none, some S44, some S45, some S46, some S47, some S48, some S49, none, none, none, none, some S54, some S55, some S56, some S57, some S58, some S59, none, none, some S62, none, none, none, none, some S67, some S68, some S69, some S70, none, some S72, some S73, some S74, some S75, none, none, none, none, some S80, some S81, none, none, none, none, some S86, none, none, none, none, some S91, none, none, none, some S95, none, some S97, some S98, none, none, some a6r, none, none, none, none, none, some a6q, some a6p, some a6o, some a6m, some a6l, some a6k, some a6j, some a6i, some a6h, some a6g, none, none, none, some a6f, some a6e, some a6d, some a6c, none, some a6b, some a6a, none, some a69, none, some a68, some a67, none, some a66, some a65, none, none, some a62, none, some a61, none, none, none, none, none, none, some a5Z, some a5Y, none, none, some a5X, none, some a5W, some a5V, none, none, none, none, none, some a5U, none, some a5T, some a5S, some a5R, some a5Q, some a5P, some a5O, some a5N, some a5M, some a5L, some a5J, some a5I, some a5H, some a5G, some a5F, some a5E, some a5D, some a5C, some a5B, some a5A, some a5y, none, some a5x, none, some a5w, some a5v, none, none, some a5u, none, none, none, none, none, none, some a5t, none, none, some a5s, some a5r, none, none, some a5q, none, none, some a5p, none, none, none, none, some a5o, some a5n, some a5m, none, none, none, none, none, some a5l, some a5k, some a5j, some a5i, none, some a5h, none, none, none, none, some a5g, none, some a5e, none, some a5d, some a5c, some a5b, some a5a, some a59, some a58, none, some a56, some a55, some a54, none, none, some a52, none, some a51, some a50, some a4Z, some a4Y, some a4X, some a4W, some a4V, some a4U, some a4T, some a4S, some a4R, some a4Q, some a4P, some a4O, some a4M, some a4L, some a4K, some a4J, some a4I, some a4H, some a4G, none, none, some a4F, none, none, some a4E, none, some a4D, none, some a4C, none, some a4B, some a4A, some a4z, none, some a4y, some a4x, some a4w, none, some a4v, some a4u, some a4t, none, none, none, some a4s, some a4r, some a4q, some a4p, none, none, none, some a4o, some a4m, none, none, some a4l, none, none, some a4k, none, none, none, none, none, none, some a4j, some a4i, none, none, some a4h, some a4g, none, some a4e, none, none, none, none, none, none, none, none, none, some a4d, none, none, some a4c, none, none, none, none, none, some a4b, some a49, some a48, some a47, none, some a45, some a43, some a42, some a40, none, none, none, some a3Z, none, some a3Y, some a3X, some a3W, some a3V, some a3U, none, some a3T, some a3S, some a3R, some a3Q, some a3P, some a3O, some a3N, some a3M, some a3L, some a3K, some a3J, some a3I, some a3H, some a3G, none, none, none, none, some a3F, some a3E, some a3D, some a3C, some a3B, some a3A, none, none, some a3z, none, some a3y, some a3x, some a3w, none, some a3v, none, some a3u, some a3t, some a3s, some a3r, some a3q, some a3p, some a3o, none, some a3m, some a3l, none, none, none, some a3k, none, none, some a3j, some a3i, none, none, none, none, none, some a3h, some a3g, none, none, none, none, none, some a3f, some a3e, some a3d, some a3c, none, none, none, none, none, none, none, none, none, some a3b, none, some a3a, some a39, some a38, some a37, none, none, some a34, some a31, some a30, none, none, some a2Z, some a2X, none, none, none, none, none, none, none, none, none, none, none, none, some a2W, some a2V, some a2U, some a2T, some a2S, none, some a2R, none, none, none, none, some a2P, some a2O, some a2N, some a2M, none, none, none, none, some a2K, none, none, some a2J, none, none, none, none, some a2H, none, none, none, none, none, none, none, none, none, none, none, none, none, none, none, none, none, none, none, none, none, none, some a2C, some a2B, some a2A, some a2z]
def nX : Nat := 402234624808527173524491178919566629726879692779419105422612444484723071868527520298079445519307606027908760896821156975863220037121990989895283578184400888
def lG : Nat → Option Ff := G2 Tryz.prog [3] 1000000 nX 517 rQ
end
end Go.Proofs.YtcolbcpeialmhaaGreatDoor
