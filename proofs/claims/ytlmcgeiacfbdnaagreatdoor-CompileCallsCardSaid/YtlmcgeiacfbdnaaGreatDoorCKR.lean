/- CompileCalls over all numbers. -/
import Derived.Test.YtlmcgeiacfbdnaaGreatDoorCK00
import Derived.Test.YtlmcgeiacfbdnaaGreatDoorCK01
import Derived.Test.YtlmcgeiacfbdnaaGreatDoorCK02
import Derived.Test.YtlmcgeiacfbdnaaGreatDoorCK03
import Derived.Test.YtlmcgeiacfbdnaaGreatDoorCK04
namespace Go.Proofs.YtlmcgeiacfbdnaaGreatDoor
open Go.Ab
noncomputable section
set_option maxRecDepth 100000
theorem awake_CK : VE (primsT o_CK_0) 999 n5 [] H0 = some (.bool true, heapOf (VE (primsT o_CK_0) 999 n5 [] H0)) := by kernel_rfl
theorem out_CK (n : Int) (x : AV) (h : n < 0 ∨ 9 < n) : Says n4 [I n, x] := by
 refine ⟨primsT o_CK_0, primsT_ok (by kernel_rfl) a_CK_0, ?_⟩
 suffices h : ∃ H', VE (primsT o_CK_0) 1000 n4 [I n, x] H0 = some (.bool true, H') by
  obtain ⟨H', h⟩ := h
  rw [h]
  rfl
 refine ⟨heapOf (VE (primsT o_CK_0) 999 n5 [] H0), (U4 _ (freeT _ _ (by decide)) 999 _ _ _).trans ?_⟩
 have e := awake_CK
 generalize heapOf (VE (primsT o_CK_0) 999 n5 [] H0) = HA at e ⊢
 by_cases a0 : n < 0
 · simp -implicitDefEqProofs [S4_2, S4_3, pC, e, a0]
 by_cases b0 : 9 < n
 · simp -implicitDefEqProofs [S4_2, S4_3, pC, e, a0, b0]
 omega
theorem in_CK (n x : Int) (h : 0 ≤ n ∧ n ≤ 9) : Says n4 [I n, .int .u32 x] := by
 have en : n = 0 ∨ n = 1 ∨ n = 2 ∨ n = 3 ∨ n = 4 ∨ n = 5 ∨ n = 6 ∨ n = 7 ∨ n = 8 ∨ n = 9 := by omega
 rcases en with rfl | rfl | rfl | rfl | rfl | rfl | rfl | rfl | rfl | rfl
 · exact ok_CK_0 x
 · exact ok_CK_1 x
 · exact ok_CK_2 x
 · exact ok_CK_3 x
 · exact ok_CK_4 x
 · exact ok_CK_5 x
 · exact ok_CK_6 x
 · exact ok_CK_7 x
 · exact ok_CK_8 x
 · exact ok_CK_9 x
theorem Calls_run (x0 x1 : Int) : Says n4 [.int .i64 x0, .int .u32 x1] := by
 by_cases h : 0 ≤ x0 ∧ x0 ≤ 9
 · exact in_CK x0 x1 h
 · exact out_CK x0 _ (by omega)
end
end Go.Proofs.YtlmcgeiacfbdnaaGreatDoor
