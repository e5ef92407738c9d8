/- CompileLoops over all numbers. -/
import Derived.Test.YtlmcgeiacfbdnaaGreatDoorCL00
import Derived.Test.YtlmcgeiacfbdnaaGreatDoorCL01
import Derived.Test.YtlmcgeiacfbdnaaGreatDoorCL02
import Derived.Test.YtlmcgeiacfbdnaaGreatDoorCL03
import Derived.Test.YtlmcgeiacfbdnaaGreatDoorCL04
import Derived.Test.YtlmcgeiacfbdnaaGreatDoorCL05
import Derived.Test.YtlmcgeiacfbdnaaGreatDoorCL06
import Derived.Test.YtlmcgeiacfbdnaaGreatDoorCL07
import Derived.Test.YtlmcgeiacfbdnaaGreatDoorCL08
import Derived.Test.YtlmcgeiacfbdnaaGreatDoorCL09
import Derived.Test.YtlmcgeiacfbdnaaGreatDoorCL10
import Derived.Test.YtlmcgeiacfbdnaaGreatDoorCL11
import Derived.Test.YtlmcgeiacfbdnaaGreatDoorCL12
import Derived.Test.YtlmcgeiacfbdnaaGreatDoorCL13
import Derived.Test.YtlmcgeiacfbdnaaGreatDoorCL14
import Derived.Test.YtlmcgeiacfbdnaaGreatDoorCL15
namespace Go.Proofs.YtlmcgeiacfbdnaaGreatDoor
open Go.Ab
noncomputable section
set_option maxRecDepth 100000
theorem awake_CL : VE (primsT o_CL_0_0) 999 n5 [] H0 = some (.bool true, heapOf (VE (primsT o_CL_0_0) 999 n5 [] H0)) := by kernel_rfl
theorem out_CL (n m : Int) (x : AV) (h : n < 0 ∨ 8 < n ∨ m < 0 ∨ 6 < m) : Says n3 [I n, I m, x] := by
 refine ⟨primsT o_CL_0_0, primsT_ok (by kernel_rfl) a_CL_0_0, ?_⟩
 suffices h : ∃ H', VE (primsT o_CL_0_0) 1000 n3 [I n, I m, x] H0 = some (.bool true, H') by
  obtain ⟨H', h⟩ := h
  rw [h]
  rfl
 refine ⟨heapOf (VE (primsT o_CL_0_0) 999 n5 [] H0), (U3 _ (freeT _ _ (by decide)) 999 _ _ _ _).trans ?_⟩
 have e := awake_CL
 generalize heapOf (VE (primsT o_CL_0_0) 999 n5 [] H0) = HA at e ⊢
 by_cases a0 : n < 0
 · simp -implicitDefEqProofs [S3_5, S3_6, S3_7, S3_8, pC, e, a0]
 by_cases b0 : 8 < n
 · simp -implicitDefEqProofs [S3_5, S3_6, S3_7, S3_8, pC, e, a0, b0]
 by_cases a1 : m < 0
 · simp -implicitDefEqProofs [S3_5, S3_6, S3_7, S3_8, pC, e, b0, a0, a1]
 by_cases b1 : 6 < m
 · simp -implicitDefEqProofs [S3_5, S3_6, S3_7, S3_8, pC, e, b0, a0, a1, b1]
 omega
theorem in_CL (n m x : Int) (h : 0 ≤ n ∧ n ≤ 8 ∧ 0 ≤ m ∧ m ≤ 6) : Says n3 [I n, I m, .int .u32 x] := by
 have en : n = 0 ∨ n = 1 ∨ n = 2 ∨ n = 3 ∨ n = 4 ∨ n = 5 ∨ n = 6 ∨ n = 7 ∨ n = 8 := by omega
 have em : m = 0 ∨ m = 1 ∨ m = 2 ∨ m = 3 ∨ m = 4 ∨ m = 5 ∨ m = 6 := by omega
 rcases en with rfl | rfl | rfl | rfl | rfl | rfl | rfl | rfl | rfl <;> rcases em with rfl | rfl | rfl | rfl | rfl | rfl | rfl
 · exact ok_CL_0_0 x
 · exact ok_CL_0_1 x
 · exact ok_CL_0_2 x
 · exact ok_CL_0_3 x
 · exact ok_CL_0_4 x
 · exact ok_CL_0_5 x
 · exact ok_CL_0_6 x
 · exact ok_CL_1_0 x
 · exact ok_CL_1_1 x
 · exact ok_CL_1_2 x
 · exact ok_CL_1_3 x
 · exact ok_CL_1_4 x
 · exact ok_CL_1_5 x
 · exact ok_CL_1_6 x
 · exact ok_CL_2_0 x
 · exact ok_CL_2_1 x
 · exact ok_CL_2_2 x
 · exact ok_CL_2_3 x
 · exact ok_CL_2_4 x
 · exact ok_CL_2_5 x
 · exact ok_CL_2_6 x
 · exact ok_CL_3_0 x
 · exact ok_CL_3_1 x
 · exact ok_CL_3_2 x
 · exact ok_CL_3_3 x
 · exact ok_CL_3_4 x
 · exact ok_CL_3_5 x
 · exact ok_CL_3_6 x
 · exact ok_CL_4_0 x
 · exact ok_CL_4_1 x
 · exact ok_CL_4_2 x
 · exact ok_CL_4_3 x
 · exact ok_CL_4_4 x
 · exact ok_CL_4_5 x
 · exact ok_CL_4_6 x
 · exact ok_CL_5_0 x
 · exact ok_CL_5_1 x
 · exact ok_CL_5_2 x
 · exact ok_CL_5_3 x
 · exact ok_CL_5_4 x
 · exact ok_CL_5_5 x
 · exact ok_CL_5_6 x
 · exact ok_CL_6_0 x
 · exact ok_CL_6_1 x
 · exact ok_CL_6_2 x
 · exact ok_CL_6_3 x
 · exact ok_CL_6_4 x
 · exact ok_CL_6_5 x
 · exact ok_CL_6_6 x
 · exact ok_CL_7_0 x
 · exact ok_CL_7_1 x
 · exact ok_CL_7_2 x
 · exact ok_CL_7_3 x
 · exact ok_CL_7_4 x
 · exact ok_CL_7_5 x
 · exact ok_CL_7_6 x
 · exact ok_CL_8_0 x
 · exact ok_CL_8_1 x
 · exact ok_CL_8_2 x
 · exact ok_CL_8_3 x
 · exact ok_CL_8_4 x
 · exact ok_CL_8_5 x
 · exact ok_CL_8_6 x
theorem Loops_run (x0 x1 x2 : Int) : Says n3 [.int .i64 x0, .int .i64 x1, .int .u32 x2] := by
 by_cases h : 0 ≤ x0 ∧ x0 ≤ 8 ∧ 0 ≤ x1 ∧ x1 ≤ 6
 · exact in_CL x0 x1 x2 h
 · exact out_CL x0 x1 _ (by omega)
end
end Go.Proofs.YtlmcgeiacfbdnaaGreatDoor
