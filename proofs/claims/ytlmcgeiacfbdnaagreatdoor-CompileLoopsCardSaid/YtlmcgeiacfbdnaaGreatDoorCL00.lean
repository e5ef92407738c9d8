/- Texts of CompileLoops: each one's compiling, its machine's beginning, its run. -/
import Derived.Test.YtlmcgeiacfbdnaaGreatDoorCLa
namespace Go.Proofs.YtlmcgeiacfbdnaaGreatDoor
open Go.Ab
noncomputable section
set_option maxRecDepth 1000000
def T_CL_0_0 := tCL 48 48
def m_CL_0_0 : Mo := ⟨[], [0, 1], [⟨0, 0, 5, 0, List.replicate 5 false, coCL0, List.replicate 26 0⟩]⟩
def c_CL_0_0 := cCL 0 2 T_CL_0_0 .nilsl [] [] m_CL_0_0
def o_CL_0_0 := onceOf T_CL_0_0 m_CL_0_0 0
theorem a_CL_0_0 : onceB o_CL_0_0 [5853, 5855, 5857, 5859, 5867] (VE prims3 999 n8 o_CL_0_0.args emptyH) = true := by kernel_rfl
theorem q_CL_0_0 (x : Int) (P : List AV → AHeap → R) : Look o_CL_0_0 c_CL_0_0 x (fun call => S3_8 call (I 0) (I 0) (.int .u32 x) H0) P := by unfold Look; kernel_rfl
theorem ok_CL_0_0 (x : Int) : Says n3 [I 0, I 0, .int .u32 x] :=
 text_ok (n := 3000) a_CL_0_0 (by kernel_rfl) (U3 _ (freeT _ _ (by decide)) 999 _ _ _ _) (q_CL_0_0 x) (by kernel_rfl) ⟨rfl, rfl, rfl, rfl, rfl, rfl, rfl⟩
def T_CL_0_1 := tCL 48 49
def m_CL_0_1 : Mo := ⟨[], [0, 1], [⟨0, 0, 5, 0, List.replicate 5 false, coCL1, List.replicate 26 0⟩]⟩
def c_CL_0_1 := cCL 0 2 T_CL_0_1 .nilsl [] [] m_CL_0_1
def o_CL_0_1 := onceOf T_CL_0_1 m_CL_0_1 0
theorem a_CL_0_1 : onceB o_CL_0_1 [5853, 5855, 5857, 5859, 5867] (VE prims3 999 n8 o_CL_0_1.args emptyH) = true := by kernel_rfl
theorem q_CL_0_1 (x : Int) (P : List AV → AHeap → R) : Look o_CL_0_1 c_CL_0_1 x (fun call => S3_8 call (I 0) (I 1) (.int .u32 x) H0) P := by unfold Look; kernel_rfl
theorem ok_CL_0_1 (x : Int) : Says n3 [I 0, I 1, .int .u32 x] :=
 text_ok (n := 3000) a_CL_0_1 (by kernel_rfl) (U3 _ (freeT _ _ (by decide)) 999 _ _ _ _) (q_CL_0_1 x) (by kernel_rfl) ⟨rfl, rfl, rfl, rfl, rfl, rfl, rfl⟩
def T_CL_0_2 := tCL 48 50
def m_CL_0_2 : Mo := ⟨[], [0, 2, 1], [⟨0, 0, 5, 0, List.replicate 5 false, coCL2, List.replicate 26 0⟩]⟩
def c_CL_0_2 := cCL 0 3 T_CL_0_2 .nilsl [] [] m_CL_0_2
def o_CL_0_2 := onceOf T_CL_0_2 m_CL_0_2 0
theorem a_CL_0_2 : onceB o_CL_0_2 [5855, 5857, 5859, 5861, 5869] (VE prims3 999 n8 o_CL_0_2.args emptyH) = true := by kernel_rfl
theorem q_CL_0_2 (x : Int) (P : List AV → AHeap → R) : Look o_CL_0_2 c_CL_0_2 x (fun call => S3_8 call (I 0) (I 2) (.int .u32 x) H0) P := by unfold Look; kernel_rfl
theorem ok_CL_0_2 (x : Int) : Says n3 [I 0, I 2, .int .u32 x] :=
 text_ok (n := 3000) a_CL_0_2 (by kernel_rfl) (U3 _ (freeT _ _ (by decide)) 999 _ _ _ _) (q_CL_0_2 x) (by kernel_rfl) ⟨rfl, rfl, rfl, rfl, rfl, rfl, rfl⟩
def T_CL_0_3 := tCL 48 51
def m_CL_0_3 : Mo := ⟨[], [0, 3, 1], [⟨0, 0, 5, 0, List.replicate 5 false, coCL2, List.replicate 26 0⟩]⟩
def c_CL_0_3 := cCL 0 3 T_CL_0_3 .nilsl [] [] m_CL_0_3
def o_CL_0_3 := onceOf T_CL_0_3 m_CL_0_3 0
theorem a_CL_0_3 : onceB o_CL_0_3 [5855, 5857, 5859, 5861, 5869] (VE prims3 999 n8 o_CL_0_3.args emptyH) = true := by kernel_rfl
theorem q_CL_0_3 (x : Int) (P : List AV → AHeap → R) : Look o_CL_0_3 c_CL_0_3 x (fun call => S3_8 call (I 0) (I 3) (.int .u32 x) H0) P := by unfold Look; kernel_rfl
theorem ok_CL_0_3 (x : Int) : Says n3 [I 0, I 3, .int .u32 x] :=
 text_ok (n := 3000) a_CL_0_3 (by kernel_rfl) (U3 _ (freeT _ _ (by decide)) 999 _ _ _ _) (q_CL_0_3 x) (by kernel_rfl) ⟨rfl, rfl, rfl, rfl, rfl, rfl, rfl⟩
end
end Go.Proofs.YtlmcgeiacfbdnaaGreatDoor
