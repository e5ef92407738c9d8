/- Texts of CompileLoops: each one's compiling, its machine's beginning, its run. -/
import Derived.Test.YtlmcgeiacfbdnaaGreatDoorCLa
namespace Go.Proofs.YtlmcgeiacfbdnaaGreatDoor
open Go.Ab
noncomputable section
set_option maxRecDepth 1000000
def T_CL_1_5 := tCL 49 53
def m_CL_1_5 : Mo := ⟨[], [0, 1, 5], [⟨0, 0, 5, 0, List.replicate 5 false, coCL5, List.replicate 26 0⟩]⟩
def c_CL_1_5 := cCL 2 3 T_CL_1_5 (.sl 1 0 1 none) [0] [1] m_CL_1_5
def o_CL_1_5 := onceOf T_CL_1_5 m_CL_1_5 0
theorem a_CL_1_5 : onceB o_CL_1_5 [5855, 5857, 5859, 5861, 5869] (VE prims3 999 n8 o_CL_1_5.args emptyH) = true := by kernel_rfl
theorem q_CL_1_5 (x : Int) (P : List AV → AHeap → R) : Look o_CL_1_5 c_CL_1_5 x (fun call => S3_8 call (I 1) (I 5) (.int .u32 x) H0) P := by unfold Look; kernel_rfl
theorem ok_CL_1_5 (x : Int) : Says n3 [I 1, I 5, .int .u32 x] :=
 text_ok (n := 3000) a_CL_1_5 (by kernel_rfl) (U3 _ (freeT _ _ (by decide)) 999 _ _ _ _) (q_CL_1_5 x) (by kernel_rfl) ⟨rfl, rfl, rfl, rfl, rfl, rfl, rfl⟩
def T_CL_1_6 := tCL 49 54
def m_CL_1_6 : Mo := ⟨[], [0, 1, 6], [⟨0, 0, 5, 0, List.replicate 5 false, coCL5, List.replicate 26 0⟩]⟩
def c_CL_1_6 := cCL 2 3 T_CL_1_6 (.sl 1 0 1 none) [0] [1] m_CL_1_6
def o_CL_1_6 := onceOf T_CL_1_6 m_CL_1_6 0
theorem a_CL_1_6 : onceB o_CL_1_6 [5855, 5857, 5859, 5861, 5869] (VE prims3 999 n8 o_CL_1_6.args emptyH) = true := by kernel_rfl
theorem q_CL_1_6 (x : Int) (P : List AV → AHeap → R) : Look o_CL_1_6 c_CL_1_6 x (fun call => S3_8 call (I 1) (I 6) (.int .u32 x) H0) P := by unfold Look; kernel_rfl
theorem ok_CL_1_6 (x : Int) : Says n3 [I 1, I 6, .int .u32 x] :=
 text_ok (n := 3000) a_CL_1_6 (by kernel_rfl) (U3 _ (freeT _ _ (by decide)) 999 _ _ _ _) (q_CL_1_6 x) (by kernel_rfl) ⟨rfl, rfl, rfl, rfl, rfl, rfl, rfl⟩
def T_CL_2_0 := tCL 50 48
def m_CL_2_0 : Mo := ⟨[], [0, 2, 1], [⟨0, 0, 5, 0, List.replicate 5 false, coCL6, List.replicate 26 0⟩]⟩
def c_CL_2_0 := cCL 4 3 T_CL_2_0 (.sl 3 0 2 none) [0, 0] [3] m_CL_2_0
def o_CL_2_0 := onceOf T_CL_2_0 m_CL_2_0 0
theorem a_CL_2_0 : onceB o_CL_2_0 [5855, 5857, 5859, 5861, 5869] (VE prims3 999 n8 o_CL_2_0.args emptyH) = true := by kernel_rfl
theorem q_CL_2_0 (x : Int) (P : List AV → AHeap → R) : Look o_CL_2_0 c_CL_2_0 x (fun call => S3_8 call (I 2) (I 0) (.int .u32 x) H0) P := by unfold Look; kernel_rfl
theorem ok_CL_2_0 (x : Int) : Says n3 [I 2, I 0, .int .u32 x] :=
 text_ok (n := 3000) a_CL_2_0 (by kernel_rfl) (U3 _ (freeT _ _ (by decide)) 999 _ _ _ _) (q_CL_2_0 x) (by kernel_rfl) ⟨rfl, rfl, rfl, rfl, rfl, rfl, rfl⟩
def T_CL_2_1 := tCL 50 49
def m_CL_2_1 : Mo := ⟨[], [0, 2, 1], [⟨0, 0, 5, 0, List.replicate 5 false, coCL7, List.replicate 26 0⟩]⟩
def c_CL_2_1 := cCL 4 3 T_CL_2_1 (.sl 3 0 2 none) [0, 0] [3] m_CL_2_1
def o_CL_2_1 := onceOf T_CL_2_1 m_CL_2_1 0
theorem a_CL_2_1 : onceB o_CL_2_1 [5855, 5857, 5859, 5861, 5869] (VE prims3 999 n8 o_CL_2_1.args emptyH) = true := by kernel_rfl
theorem q_CL_2_1 (x : Int) (P : List AV → AHeap → R) : Look o_CL_2_1 c_CL_2_1 x (fun call => S3_8 call (I 2) (I 1) (.int .u32 x) H0) P := by unfold Look; kernel_rfl
theorem ok_CL_2_1 (x : Int) : Says n3 [I 2, I 1, .int .u32 x] :=
 text_ok (n := 3000) a_CL_2_1 (by kernel_rfl) (U3 _ (freeT _ _ (by decide)) 999 _ _ _ _) (q_CL_2_1 x) (by kernel_rfl) ⟨rfl, rfl, rfl, rfl, rfl, rfl, rfl⟩
end
end Go.Proofs.YtlmcgeiacfbdnaaGreatDoor
