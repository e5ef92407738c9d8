/- Plain functions, printed: part 2. -/
import Derived.Test.YtdccenbljfanpaaGreatDoorAdE
import Derived.Test.YtdccenbljfanpaaGreatDoorProg
import Derived.Test.YtdccenbljfanpaaGreatDoorVN
import Derived.KernelRfl
namespace Go.Proofs.YtdccenbljfanpaaGreatDoor
open Go.Ab
set_option maxRecDepth 100000
/- slices.pdqsortOrdered[int] -/
noncomputable def S_slices_pdqsortOrdered_int_1 (call : CallFn) (q0 : AV → AV → AV → AV → AV → AV → AHeap → R) (t0 t1 t2 t3 t8 t9 t10 t11 t75 t86 : AV) (H : AHeap) : R :=
  pPick t75 t86 (.bool false) H fun t87 H =>
  onBool t87 (pC call n_slices_partitionEqualOrdered_int [t0, t1, t2, t11] H fun t92 H =>
  q0 t0 t92 t2 t3 t8 t9 H) (pC call n_slices_partitionOrdered_int [t0, t1, t2, t11] H fun t99 H =>
  pExt t99 0 H fun t100 H =>
  pExt t99 1 H fun t101 H =>
  pSub t100 t1 H fun t105 H =>
  pSub t2 t100 H fun t108 H =>
  pO (aBin .quo t10 (.int .i64 (.ofNat 8))) H fun t110 H =>
  pLss t105 t108 H fun t113 H =>
  onBool t113 (pGeq t105 t110 H fun t116 H =>
  pC call n_slices_pdqsortOrdered_int [t0, t1, t100, t3] H fun _ H =>
  pAdd t100 (.int .i64 (.ofNat 1)) H fun t123 H =>
  q0 t0 t123 t2 t3 t116 t101 H) (pGeq t108 t110 H fun t126 H =>
  pAdd t100 (.int .i64 (.ofNat 1)) H fun t129 H =>
  pC call n_slices_pdqsortOrdered_int [t0, t129, t2, t3] H fun _ H =>
  q0 t0 t1 t100 t3 t126 t101 H))
noncomputable def S_slices_pdqsortOrdered_int_2 (call : CallFn) (q0 : AV → AV → AV → AV → AV → AV → AHeap → R) (t0 t1 t2 t3 t8 t9 t10 t11 t75 t85 : AV) (H : AHeap) : R :=
  guardA t75 true (pO (aUn .not t85) H fun t86 H =>
  S_slices_pdqsortOrdered_int_1 call q0 t0 t1 t2 t3 t8 t9 t10 t11 t75 t86 H) (S_slices_pdqsortOrdered_int_1 call q0 t0 t1 t2 t3 t8 t9 t10 t11 t75 U H)
noncomputable def S_slices_pdqsortOrdered_int_3 (call : CallFn) (q0 : AV → AV → AV → AV → AV → AV → AHeap → R) (t0 t1 t2 t3 t8 t9 t10 t11 t75 t80 t84 : AV) (H : AHeap) : R :=
  guardA t75 true (pC call n_cmp_Less_int [t80, t84] H fun t85 H =>
  S_slices_pdqsortOrdered_int_2 call q0 t0 t1 t2 t3 t8 t9 t10 t11 t75 t85 H) (S_slices_pdqsortOrdered_int_2 call q0 t0 t1 t2 t3 t8 t9 t10 t11 t75 U H)
noncomputable def S_slices_pdqsortOrdered_int_4 (call : CallFn) (q0 : AV → AV → AV → AV → AV → AV → AHeap → R) (t0 t1 t2 t3 t8 t9 t10 t11 t75 t80 t83 : AV) (H : AHeap) : R :=
  guardA t75 true (ldK .none H t83 fun t84 H =>
  S_slices_pdqsortOrdered_int_3 call q0 t0 t1 t2 t3 t8 t9 t10 t11 t75 t80 t84 H) (S_slices_pdqsortOrdered_int_3 call q0 t0 t1 t2 t3 t8 t9 t10 t11 t75 t80 U H)
noncomputable def S_slices_pdqsortOrdered_int_5 (call : CallFn) (q0 : AV → AV → AV → AV → AV → AV → AHeap → R) (t0 t1 t2 t3 t8 t9 t10 t11 t75 t80 t81 t82 : AV) (H : AHeap) : R :=
  guardA t75 true (pIa 1 t81 t82 H fun t83 H =>
  S_slices_pdqsortOrdered_int_4 call q0 t0 t1 t2 t3 t8 t9 t10 t11 t75 t80 t83 H) (S_slices_pdqsortOrdered_int_4 call q0 t0 t1 t2 t3 t8 t9 t10 t11 t75 t80 U H)
noncomputable def S_slices_pdqsortOrdered_int_6 (call : CallFn) (q0 : AV → AV → AV → AV → AV → AV → AHeap → R) (t0 t1 t2 t3 t8 t9 t10 t11 t75 t80 t81 : AV) (H : AHeap) : R :=
  guardA t75 true (S_slices_pdqsortOrdered_int_5 call q0 t0 t1 t2 t3 t8 t9 t10 t11 t75 t80 t81 t11 H) (S_slices_pdqsortOrdered_int_5 call q0 t0 t1 t2 t3 t8 t9 t10 t11 t75 t80 t81 U H)
noncomputable def S_slices_pdqsortOrdered_int_7 (call : CallFn) (q0 : AV → AV → AV → AV → AV → AV → AHeap → R) (t0 t1 t2 t3 t8 t9 t10 t11 t75 t80 : AV) (H : AHeap) : R :=
  guardA t75 true (S_slices_pdqsortOrdered_int_6 call q0 t0 t1 t2 t3 t8 t9 t10 t11 t75 t80 t0 H) (S_slices_pdqsortOrdered_int_6 call q0 t0 t1 t2 t3 t8 t9 t10 t11 t75 t80 U H)
noncomputable def S_slices_pdqsortOrdered_int_8 (call : CallFn) (q0 : AV → AV → AV → AV → AV → AV → AHeap → R) (t0 t1 t2 t3 t8 t9 t10 t11 t75 t79 : AV) (H : AHeap) : R :=
  guardA t75 true (ldK .none H t79 fun t80 H =>
  S_slices_pdqsortOrdered_int_7 call q0 t0 t1 t2 t3 t8 t9 t10 t11 t75 t80 H) (S_slices_pdqsortOrdered_int_7 call q0 t0 t1 t2 t3 t8 t9 t10 t11 t75 U H)
noncomputable def S_slices_pdqsortOrdered_int_9 (call : CallFn) (q0 : AV → AV → AV → AV → AV → AV → AHeap → R) (t0 t1 t2 t3 t8 t9 t10 t11 t75 t76 t78 : AV) (H : AHeap) : R :=
  guardA t75 true (pIa 1 t76 t78 H fun t79 H =>
  S_slices_pdqsortOrdered_int_8 call q0 t0 t1 t2 t3 t8 t9 t10 t11 t75 t79 H) (S_slices_pdqsortOrdered_int_8 call q0 t0 t1 t2 t3 t8 t9 t10 t11 t75 U H)
noncomputable def S_slices_pdqsortOrdered_int_10 (call : CallFn) (q0 : AV → AV → AV → AV → AV → AV → AHeap → R) (t0 t1 t2 t3 t8 t9 t10 t11 t75 t76 t77 : AV) (H : AHeap) : R :=
  guardA t75 true (pSub t77 (.int .i64 (.ofNat 1)) H fun t78 H =>
  S_slices_pdqsortOrdered_int_9 call q0 t0 t1 t2 t3 t8 t9 t10 t11 t75 t76 t78 H) (S_slices_pdqsortOrdered_int_9 call q0 t0 t1 t2 t3 t8 t9 t10 t11 t75 t76 U H)
noncomputable def S_slices_pdqsortOrdered_int_11 (call : CallFn) (q0 : AV → AV → AV → AV → AV → AV → AHeap → R) (t0 t1 t2 t3 t8 t9 t10 t11 t75 t76 : AV) (H : AHeap) : R :=
  guardA t75 true (S_slices_pdqsortOrdered_int_10 call q0 t0 t1 t2 t3 t8 t9 t10 t11 t75 t76 t1 H) (S_slices_pdqsortOrdered_int_10 call q0 t0 t1 t2 t3 t8 t9 t10 t11 t75 t76 U H)
noncomputable def S_slices_pdqsortOrdered_int_12 (call : CallFn) (q0 : AV → AV → AV → AV → AV → AV → AHeap → R) (t0 t1 t2 t3 t8 t9 t10 t11 : AV) (H : AHeap) : R :=
  pGtr t1 (.int .i64 (.ofNat 0)) H fun t74 H =>
  guardA t74 true (S_slices_pdqsortOrdered_int_11 call q0 t0 t1 t2 t3 t8 t9 t10 t11 t74 t0 H) (S_slices_pdqsortOrdered_int_11 call q0 t0 t1 t2 t3 t8 t9 t10 t11 t74 U H)
noncomputable def S_slices_pdqsortOrdered_int_13 (call : CallFn) (q0 : AV → AV → AV → AV → AV → AV → AHeap → R) (t0 t1 t2 t3 t8 t9 t10 t11 t65 t67 : AV) (H : AHeap) : R :=
  pPick t65 t67 (.bool false) H fun t68 H =>
  onBool t68 (pC call n_slices_partialInsertionSortOrdered_int [t0, t1, t2] H fun t72 H =>
  onBool t72 (some (.tup [], H)) (S_slices_pdqsortOrdered_int_12 call q0 t0 t1 t2 t3 t8 t9 t10 t11 H)) (S_slices_pdqsortOrdered_int_12 call q0 t0 t1 t2 t3 t8 t9 t10 t11 H)
noncomputable def S_slices_pdqsortOrdered_int_14 (call : CallFn) (q0 : AV → AV → AV → AV → AV → AV → AHeap → R) (t0 t1 t2 t3 t8 t9 t10 t11 t12 t62 t63 : AV) (H : AHeap) : R :=
  pPick t62 t63 (.bool false) H fun t64 H =>
  guardA t64 true (pEql t12 (.int .i64 (.ofNat 1)) H fun t67 H =>
  S_slices_pdqsortOrdered_int_13 call q0 t0 t1 t2 t3 t8 t9 t10 t11 t64 t67 H) (S_slices_pdqsortOrdered_int_13 call q0 t0 t1 t2 t3 t8 t9 t10 t11 t64 U H)
noncomputable def S_slices_pdqsortOrdered_int_15 (call : CallFn) (q0 : AV → AV → AV → AV → AV → AV → AHeap → R) (t0 t1 t2 t3 t8 t9 t10 t11 t12 : AV) (H : AHeap) : R :=
  guardA t8 true (S_slices_pdqsortOrdered_int_14 call q0 t0 t1 t2 t3 t8 t9 t10 t11 t12 t8 t9 H) (S_slices_pdqsortOrdered_int_14 call q0 t0 t1 t2 t3 t8 t9 t10 t11 t12 t8 U H)
noncomputable def S_slices_pdqsortOrdered_int_16 (call : CallFn) (q0 : AV → AV → AV → AV → AV → AV → AHeap → R) (t0 t1 t2 t3 t8 t9 t10 : AV) (H : AHeap) : R :=
  pC call n_slices_choosePivotOrdered_int [t0, t1, t2] H fun t46 H =>
  pExt t46 0 H fun t47 H =>
  pExt t46 1 H fun t48 H =>
  pEql t48 (.int .i64 (.ofNat 2)) H fun t50 H =>
  onBool t50 (pC call n_slices_reverseRangeOrdered_int [t0, t1, t2] H fun _ H =>
  pSub t2 (.int .i64 (.ofNat 1)) H fun t56 H =>
  pSub t47 t1 H fun t59 H =>
  pSub t56 t59 H fun t60 H =>
  S_slices_pdqsortOrdered_int_15 call q0 t0 t1 t2 t3 t8 t9 t10 t60 (.int .i64 (.ofNat 1)) H) (S_slices_pdqsortOrdered_int_15 call q0 t0 t1 t2 t3 t8 t9 t10 t47 t48 H)
noncomputable def S_slices_pdqsortOrdered_int_0 (call : CallFn) (n : Nat) : AV → AV → AV → AV → AV → AV → AHeap → R :=
  Nat.rec (motive := fun _ => AV → AV → AV → AV → AV → AV → AHeap → R) (fun _ _ _ _ _ _ _ => none) (fun _ q0 t0 t1 t2 t3 t8 t9 H => pSub t2 t1 H fun t21 H =>
  pLeq t21 (.int .i64 (.ofNat 12)) H fun t23 H =>
  onBool t23 (pC call n_slices_insertionSortOrdered_int [t0, t1, t2] H fun _ H =>
  some (.tup [], H)) (pEql t3 (.int .i64 (.ofNat 0)) H fun t29 H =>
  onBool t29 (pC call n_slices_heapSortOrdered_int [t0, t1, t2] H fun _ H =>
  some (.tup [], H)) (pO (aUn .not t8) H fun t35 H =>
  onBool t35 (pC call n_slices_breakPatternsOrdered_int [t0, t1, t2] H fun _ H =>
  pSub t3 (.int .i64 (.ofNat 1)) H fun t41 H =>
  S_slices_pdqsortOrdered_int_16 call q0 t0 t1 t2 t41 t8 t9 t21 H) (S_slices_pdqsortOrdered_int_16 call q0 t0 t1 t2 t3 t8 t9 t21 H)))) n
noncomputable def S_slices_pdqsortOrdered_int : Ff := ⟨fun call l H => argA4 (fun t0 t1 t2 t3 => S_slices_pdqsortOrdered_int_0 call 1000000 t0 t1 t2 t3 (.bool true) (.bool true) H) l⟩
/- math/bits.Len -/
noncomputable def S_math_bits_Len_0 (call : CallFn) (t0 : AV) (H : AHeap) : R :=
  onBool (.bool false) (pConv .u32 t0 H fun t4 H =>
  pC call n_math_bits_Len32 [t4] H fun t5 H =>
  some (t5, H)) (pC call n_math_bits_Len64 [t0] H fun t7 H =>
  some (t7, H))
noncomputable def S_math_bits_Len : Ff := ⟨fun call l H => argA1 (fun t0 => S_math_bits_Len_0 call t0 H) l⟩
/- gantline/live.Follows$1 -/
noncomputable def S_live_Follows_c1_0 (_ : CallFn) (t6 t11 : AV) (H : AHeap) : R :=
  pPick t6 (.bool true) t11 H fun t12 H =>
  some (t12, H)
noncomputable def S_live_Follows_c1_1 (call : CallFn) (t0 t1 : AV) (H : AHeap) : R :=
  pLss t0 (.int .i64 (.ofNat 0)) H fun t5 H =>
  guardA t5 false (pFa 5 t1 H fun t8 H =>
  ldK .none H t8 fun t9 H =>
  pO (aLen .sl H t9) H fun t10 H =>
  pGeq t0 t10 H fun t11 H =>
  S_live_Follows_c1_0 call t5 t11 H) (S_live_Follows_c1_0 call t5 U H)
noncomputable def S_live_Follows_c1 : Ff := ⟨fun call l H => argA2 (fun t0 t1 => S_live_Follows_c1_1 call t0 t1 H) l⟩
/- slices.Compact[[]int,int] -/
noncomputable def S_slices_Compact_int_1 (_ : CallFn) (q0 : AV → AV → AHeap → R) (t0 t3 : AV) (H : AHeap) : R :=
  pAdd t3 (.int .i64 (.ofNat 1)) H fun t15 H =>
  q0 t0 t15 H
noncomputable def S_slices_Compact_int_2 (_ : CallFn) (t0 t3 : AV) (H : AHeap) : R :=
  pO (aSlice 1 H t0 (.some t3) .none .none) H fun t56 H =>
  pW (unitW (aClearS [(.int .i64 (.ofNat 0))] H t56)) fun _ H =>
  pO (aSlice 1 H t0 .none (.some t3) .none) H fun t59 H =>
  some (t59, H)
noncomputable def S_slices_Compact_int_4 (_ : CallFn) (q1 : AV → AV → AV → AV → AHeap → R) (t0 t3 t4 t5 : AV) (H : AHeap) : R :=
  pAdd t5 (.int .i64 (.ofNat 1)) H fun t34 H =>
  q1 t0 t3 t4 t34 H
noncomputable def S_slices_Compact_int_3 (call : CallFn) (n : Nat) : AV → AV → AV → AV → AHeap → R :=
  Nat.rec (motive := fun _ => AV → AV → AV → AV → AHeap → R) (fun _ _ _ _ _ => none) (fun _ q1 t0 t3 t4 t5 H => pO (aLen .sl H t4) H fun t31 H =>
  pLss t5 t31 H fun t32 H =>
  onBool t32 (pIa 1 t4 t5 H fun t37 H =>
  ldK .none H t37 fun t38 H =>
  pSub t5 (.int .i64 (.ofNat 1)) H fun t41 H =>
  pIa 1 t4 t41 H fun t42 H =>
  ldK .none H t42 fun t43 H =>
  pNeq t38 t43 H fun t44 H =>
  onBool t44 (pIa 1 t4 t5 H fun t49 H =>
  ldK .none H t49 fun t50 H =>
  pIa 1 t0 t3 H fun t51 H =>
  stK 1 H t51 t50 fun _ H =>
  pAdd t3 (.int .i64 (.ofNat 1)) H fun t53 H =>
  S_slices_Compact_int_4 call q1 t0 t53 t4 t5 H) (S_slices_Compact_int_4 call q1 t0 t3 t4 t5 H)) (S_slices_Compact_int_2 call t0 t3 H)) n
noncomputable def S_slices_Compact_int_0 (call : CallFn) (n : Nat) : AV → AV → AHeap → R :=
  Nat.rec (motive := fun _ => AV → AV → AHeap → R) (fun _ _ _ => none) (fun _ q0 t0 t3 H => pO (aLen .sl H t0) H fun t12 H =>
  pLss t3 t12 H fun t13 H =>
  onBool t13 (pIa 1 t0 t3 H fun t18 H =>
  ldK .none H t18 fun t19 H =>
  pSub t3 (.int .i64 (.ofNat 1)) H fun t22 H =>
  pIa 1 t0 t22 H fun t23 H =>
  ldK .none H t23 fun t24 H =>
  pEql t19 t24 H fun t25 H =>
  onBool t25 (pO (aSlice 1 H t0 (.some t3) .none .none) H fun t28 H =>
  S_slices_Compact_int_3 call 1000000 t0 t3 t28 (.int .i64 (.ofNat 1)) H) (S_slices_Compact_int_1 call q0 t0 t3 H)) (some (t0, H))) n
noncomputable def S_slices_Compact_int_5 (call : CallFn) (t0 : AV) (H : AHeap) : R :=
  pO (aLen .sl H t0) H fun t7 H =>
  pLss t7 (.int .i64 (.ofNat 2)) H fun t8 H =>
  onBool t8 (some (t0, H)) (S_slices_Compact_int_0 call 1000000 t0 (.int .i64 (.ofNat 1)) H)
noncomputable def S_slices_Compact_int : Ff := ⟨fun call l H => argA1 (fun t0 => S_slices_Compact_int_5 call t0 H) l⟩
/- gantline/live.given -/
noncomputable def S_live_given_0 (call : CallFn) (t0 : AV) (H : AHeap) : R :=
  pC call n_slices_DeleteFunc_int [t0, (.fn n_live_given_c1 [] [])] H fun t4 H =>
  some (t4, H)
noncomputable def S_live_given : Ff := ⟨fun call l H => argA1 (fun t0 => S_live_given_0 call t0 H) l⟩
/- (*gantline/verify.checker).is$1 -/
noncomputable def S_verify_checker_is_c1_0 (_ : CallFn) (t0 t1 t2 : AV) (H : AHeap) : R :=
  ldK .none H t1 fun t5 H =>
  pO (aNil t5) H fun t6 H =>
  pFa 6 t6 H fun t7 H =>
  pFa 4 t7 H fun t8 H =>
  ldK .none H t8 fun t9 H =>
  pIa 1 t9 t0 H fun t11 H =>
  ldK .none H t11 fun t12 H =>
  ldK .none H t2 fun t13 H =>
  pO (aEq true .bool t12 t13) H fun t14 H =>
  some (t14, H)
noncomputable def S_verify_checker_is_c1 : Ff := ⟨fun call l H => argA3 (fun t0 t1 t2 => S_verify_checker_is_c1_0 call t0 t1 t2 H) l⟩
/- slices.insertionSortOrdered[int] -/
noncomputable def S_slices_insertionSortOrdered_int_1 (_ : CallFn) (q0 : AV → AV → AV → AV → AHeap → R) (t0 t1 t2 t6 : AV) (H : AHeap) : R :=
  pAdd t6 (.int .i64 (.ofNat 1)) H fun t14 H =>
  q0 t0 t1 t2 t14 H
noncomputable def S_slices_insertionSortOrdered_int_3 (call : CallFn) (q0 : AV → AV → AV → AV → AHeap → R) (q1 : AV → AV → AV → AV → AV → AHeap → R) (t0 t1 t2 t6 t7 t19 t29 : AV) (H : AHeap) : R :=
  pPick t19 t29 (.bool false) H fun t30 H =>
  onBool t30 (pSub t7 (.int .i64 (.ofNat 1)) H fun t37 H =>
  pSub t7 (.int .i64 (.ofNat 1)) H fun t40 H =>
  pIa 1 t0 t40 H fun t41 H =>
  ldK .none H t41 fun t42 H =>
  pIa 1 t0 t7 H fun t45 H =>
  ldK .none H t45 fun t46 H =>
  pIa 1 t0 t7 H fun t47 H =>
  stK 1 H t47 t42 fun _ H =>
  pIa 1 t0 t37 H fun t48 H =>
  stK 1 H t48 t46 fun _ H =>
  pSub t7 (.int .i64 (.ofNat 1)) H fun t32 H =>
  q1 t0 t1 t2 t6 t32 H) (S_slices_insertionSortOrdered_int_1 call q0 t0 t1 t2 t6 H)
noncomputable def S_slices_insertionSortOrdered_int_4 (call : CallFn) (q0 : AV → AV → AV → AV → AHeap → R) (q1 : AV → AV → AV → AV → AV → AHeap → R) (t0 t1 t2 t6 t7 t19 t23 t28 : AV) (H : AHeap) : R :=
  guardA t19 true (pC call n_cmp_Less_int [t23, t28] H fun t29 H =>
  S_slices_insertionSortOrdered_int_3 call q0 q1 t0 t1 t2 t6 t7 t19 t29 H) (S_slices_insertionSortOrdered_int_3 call q0 q1 t0 t1 t2 t6 t7 t19 U H)
noncomputable def S_slices_insertionSortOrdered_int_5 (call : CallFn) (q0 : AV → AV → AV → AV → AHeap → R) (q1 : AV → AV → AV → AV → AV → AHeap → R) (t0 t1 t2 t6 t7 t19 t23 t27 : AV) (H : AHeap) : R :=
  guardA t19 true (ldK .none H t27 fun t28 H =>
  S_slices_insertionSortOrdered_int_4 call q0 q1 t0 t1 t2 t6 t7 t19 t23 t28 H) (S_slices_insertionSortOrdered_int_4 call q0 q1 t0 t1 t2 t6 t7 t19 t23 U H)
noncomputable def S_slices_insertionSortOrdered_int_6 (call : CallFn) (q0 : AV → AV → AV → AV → AHeap → R) (q1 : AV → AV → AV → AV → AV → AHeap → R) (t0 t1 t2 t6 t7 t19 t23 t24 t26 : AV) (H : AHeap) : R :=
  guardA t19 true (pIa 1 t24 t26 H fun t27 H =>
  S_slices_insertionSortOrdered_int_5 call q0 q1 t0 t1 t2 t6 t7 t19 t23 t27 H) (S_slices_insertionSortOrdered_int_5 call q0 q1 t0 t1 t2 t6 t7 t19 t23 U H)
noncomputable def S_slices_insertionSortOrdered_int_7 (call : CallFn) (q0 : AV → AV → AV → AV → AHeap → R) (q1 : AV → AV → AV → AV → AV → AHeap → R) (t0 t1 t2 t6 t7 t19 t23 t24 t25 : AV) (H : AHeap) : R :=
  guardA t19 true (pSub t25 (.int .i64 (.ofNat 1)) H fun t26 H =>
  S_slices_insertionSortOrdered_int_6 call q0 q1 t0 t1 t2 t6 t7 t19 t23 t24 t26 H) (S_slices_insertionSortOrdered_int_6 call q0 q1 t0 t1 t2 t6 t7 t19 t23 t24 U H)
noncomputable def S_slices_insertionSortOrdered_int_8 (call : CallFn) (q0 : AV → AV → AV → AV → AHeap → R) (q1 : AV → AV → AV → AV → AV → AHeap → R) (t0 t1 t2 t6 t7 t19 t23 t24 : AV) (H : AHeap) : R :=
  guardA t19 true (S_slices_insertionSortOrdered_int_7 call q0 q1 t0 t1 t2 t6 t7 t19 t23 t24 t7 H) (S_slices_insertionSortOrdered_int_7 call q0 q1 t0 t1 t2 t6 t7 t19 t23 t24 U H)
noncomputable def S_slices_insertionSortOrdered_int_9 (call : CallFn) (q0 : AV → AV → AV → AV → AHeap → R) (q1 : AV → AV → AV → AV → AV → AHeap → R) (t0 t1 t2 t6 t7 t19 t23 : AV) (H : AHeap) : R :=
  guardA t19 true (S_slices_insertionSortOrdered_int_8 call q0 q1 t0 t1 t2 t6 t7 t19 t23 t0 H) (S_slices_insertionSortOrdered_int_8 call q0 q1 t0 t1 t2 t6 t7 t19 t23 U H)
noncomputable def S_slices_insertionSortOrdered_int_10 (call : CallFn) (q0 : AV → AV → AV → AV → AHeap → R) (q1 : AV → AV → AV → AV → AV → AHeap → R) (t0 t1 t2 t6 t7 t19 t22 : AV) (H : AHeap) : R :=
  guardA t19 true (ldK .none H t22 fun t23 H =>
  S_slices_insertionSortOrdered_int_9 call q0 q1 t0 t1 t2 t6 t7 t19 t23 H) (S_slices_insertionSortOrdered_int_9 call q0 q1 t0 t1 t2 t6 t7 t19 U H)
noncomputable def S_slices_insertionSortOrdered_int_11 (call : CallFn) (q0 : AV → AV → AV → AV → AHeap → R) (q1 : AV → AV → AV → AV → AV → AHeap → R) (t0 t1 t2 t6 t7 t19 t20 t21 : AV) (H : AHeap) : R :=
  guardA t19 true (pIa 1 t20 t21 H fun t22 H =>
  S_slices_insertionSortOrdered_int_10 call q0 q1 t0 t1 t2 t6 t7 t19 t22 H) (S_slices_insertionSortOrdered_int_10 call q0 q1 t0 t1 t2 t6 t7 t19 U H)
noncomputable def S_slices_insertionSortOrdered_int_12 (call : CallFn) (q0 : AV → AV → AV → AV → AHeap → R) (q1 : AV → AV → AV → AV → AV → AHeap → R) (t0 t1 t2 t6 t7 t19 t20 : AV) (H : AHeap) : R :=
  guardA t19 true (S_slices_insertionSortOrdered_int_11 call q0 q1 t0 t1 t2 t6 t7 t19 t20 t7 H) (S_slices_insertionSortOrdered_int_11 call q0 q1 t0 t1 t2 t6 t7 t19 t20 U H)
noncomputable def S_slices_insertionSortOrdered_int_2 (call : CallFn) (q0 : AV → AV → AV → AV → AHeap → R) (n : Nat) : AV → AV → AV → AV → AV → AHeap → R :=
  Nat.rec (motive := fun _ => AV → AV → AV → AV → AV → AHeap → R) (fun _ _ _ _ _ _ => none) (fun _ q1 t0 t1 t2 t6 t7 H => pGtr t7 t1 H fun t18 H =>
  guardA t18 true (S_slices_insertionSortOrdered_int_12 call q0 q1 t0 t1 t2 t6 t7 t18 t0 H) (S_slices_insertionSortOrdered_int_12 call q0 q1 t0 t1 t2 t6 t7 t18 U H)) n
noncomputable def S_slices_insertionSortOrdered_int_0 (call : CallFn) (n : Nat) : AV → AV → AV → AV → AHeap → R :=
  Nat.rec (motive := fun _ => AV → AV → AV → AV → AHeap → R) (fun _ _ _ _ _ => none) (fun _ q0 t0 t1 t2 t6 H => pLss t6 t2 H fun t12 H =>
  onBool t12 (S_slices_insertionSortOrdered_int_2 call q0 1000000 t0 t1 t2 t6 t6 H) (some (.tup [], H))) n
noncomputable def S_slices_insertionSortOrdered_int_13 (call : CallFn) (t0 t1 t2 : AV) (H : AHeap) : R :=
  pAdd t1 (.int .i64 (.ofNat 1)) H fun t9 H =>
  S_slices_insertionSortOrdered_int_0 call 1000000 t0 t1 t2 t9 H
noncomputable def S_slices_insertionSortOrdered_int : Ff := ⟨fun call l H => argA3 (fun t0 t1 t2 => S_slices_insertionSortOrdered_int_13 call t0 t1 t2 H) l⟩
/- gantline/live.given$1 -/
noncomputable def S_live_given_c1_0 (_ : CallFn) (t0 : AV) (H : AHeap) : R :=
  pEql t0 (.int .i64 (.negSucc 0)) H fun t4 H =>
  some (t4, H)
noncomputable def S_live_given_c1 : Ff := ⟨fun call l H => argA1 (fun t0 => S_live_given_c1_0 call t0 H) l⟩
end Go.Proofs.YtdccenbljfanpaaGreatDoor
