/- Texts of CompileLoops: each one's compiling, its machine's beginning, its run. -/
import Derived.Test.YtlmcgeiacfbdnaaGreatDoorCLa
namespace Go.Proofs.YtlmcgeiacfbdnaaGreatDoor
open Go.Ab
noncomputable section
set_option maxRecDepth 1000000
def T_CL_1_1 := tCL 49 49
def m_CL_1_1 : Mo := ⟨[], [0, 1], [⟨0, 0, 5, 0, List.replicate 5 false, coCL4, List.replicate 26 0⟩]⟩
def c_CL_1_1 := cCL 2 2 T_CL_1_1 (.sl 1 0 1 none) [0] [1] m_CL_1_1
def o_CL_1_1 := onceOf T_CL_1_1 m_CL_1_1 0
theorem a_CL_1_1 : onceB o_CL_1_1 [5853, 5855, 5857, 5859, 5867] (VE prims3 999 n8 o_CL_1_1.args emptyH) = true := by kernel_rfl
theorem q_CL_1_1 (x : Int) (P : List AV → AHeap → R) : Look o_CL_1_1 c_CL_1_1 x (fun call => S3_8 call (I 1) (I 1) (.int .u32 x) H0) P := by unfold Look; kernel_rfl
theorem ok_CL_1_1 (x : Int) : Says n3 [I 1, I 1, .int .u32 x] :=
 text_ok (n := 3000) a_CL_1_1 (by kernel_rfl) (U3 _ (freeT _ _ (by decide)) 999 _ _ _ _) (q_CL_1_1 x) (by kernel_rfl) ⟨rfl, rfl, rfl, rfl, rfl, rfl, rfl⟩
def T_CL_1_2 := tCL 49 50
def m_CL_1_2 : Mo := ⟨[], [0, 1, 2], [⟨0, 0, 5, 0, List.replicate 5 false, coCL5, List.replicate 26 0⟩]⟩
def c_CL_1_2 := cCL 2 3 T_CL_1_2 (.sl 1 0 1 none) [0] [1] m_CL_1_2
def o_CL_1_2 := onceOf T_CL_1_2 m_CL_1_2 0
theorem a_CL_1_2 : onceB o_CL_1_2 [5855, 5857, 5859, 5861, 5869] (VE prims3 999 n8 o_CL_1_2.args emptyH) = true := by kernel_rfl
theorem q_CL_1_2 (x : Int) (P : List AV → AHeap → R) : Look o_CL_1_2 c_CL_1_2 x (fun call => S3_8 call (I 1) (I 2) (.int .u32 x) H0) P := by unfold Look; kernel_rfl
theorem ok_CL_1_2 (x : Int) : Says n3 [I 1, I 2, .int .u32 x] :=
 text_ok (n := 3000) a_CL_1_2 (by kernel_rfl) (U3 _ (freeT _ _ (by decide)) 999 _ _ _ _) (q_CL_1_2 x) (by kernel_rfl) ⟨rfl, rfl, rfl, rfl, rfl, rfl, rfl⟩
def T_CL_1_3 := tCL 49 51
def m_CL_1_3 : Mo := ⟨[], [0, 1, 3], [⟨0, 0, 5, 0, List.replicate 5 false, coCL5, List.replicate 26 0⟩]⟩
def c_CL_1_3 := cCL 2 3 T_CL_1_3 (.sl 1 0 1 none) [0] [1] m_CL_1_3
def o_CL_1_3 := onceOf T_CL_1_3 m_CL_1_3 0
theorem a_CL_1_3 : onceB o_CL_1_3 [5855, 5857, 5859, 5861, 5869] (VE prims3 999 n8 o_CL_1_3.args emptyH) = true := by kernel_rfl
theorem q_CL_1_3 (x : Int) (P : List AV → AHeap → R) : Look o_CL_1_3 c_CL_1_3 x (fun call => S3_8 call (I 1) (I 3) (.int .u32 x) H0) P := by unfold Look; kernel_rfl
theorem ok_CL_1_3 (x : Int) : Says n3 [I 1, I 3, .int .u32 x] :=
 text_ok (n := 3000) a_CL_1_3 (by kernel_rfl) (U3 _ (freeT _ _ (by decide)) 999 _ _ _ _) (q_CL_1_3 x) (by kernel_rfl) ⟨rfl, rfl, rfl, rfl, rfl, rfl, rfl⟩
def T_CL_1_4 := tCL 49 52
def m_CL_1_4 : Mo := ⟨[], [0, 1, 4], [⟨0, 0, 5, 0, List.replicate 5 false, coCL5, List.replicate 26 0⟩]⟩
def c_CL_1_4 := cCL 2 3 T_CL_1_4 (.sl 1 0 1 none) [0] [1] m_CL_1_4
def o_CL_1_4 := onceOf T_CL_1_4 m_CL_1_4 0
theorem a_CL_1_4 : onceB o_CL_1_4 [5855, 5857, 5859, 5861, 5869] (VE prims3 999 n8 o_CL_1_4.args emptyH) = true := by kernel_rfl
theorem q_CL_1_4 (x : Int) (P : List AV → AHeap → R) : Look o_CL_1_4 c_CL_1_4 x (fun call => S3_8 call (I 1) (I 4) (.int .u32 x) H0) P := by unfold Look; kernel_rfl
theorem ok_CL_1_4 (x : Int) : Says n3 [I 1, I 4, .int .u32 x] :=
 text_ok (n := 3000) a_CL_1_4 (by kernel_rfl) (U3 _ (freeT _ _ (by decide)) 999 _ _ _ _) (q_CL_1_4 x) (by kernel_rfl) ⟨rfl, rfl, rfl, rfl, rfl, rfl, rfl⟩
end
end Go.Proofs.YtlmcgeiacfbdnaaGreatDoor
