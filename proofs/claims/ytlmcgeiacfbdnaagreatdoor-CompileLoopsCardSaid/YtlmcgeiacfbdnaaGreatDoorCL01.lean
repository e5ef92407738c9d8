/- Texts of CompileLoops: each one's compiling, its machine's beginning, its run. -/
import Derived.Test.YtlmcgeiacfbdnaaGreatDoorCLa
namespace Go.Proofs.YtlmcgeiacfbdnaaGreatDoor
open Go.Ab
noncomputable section
set_option maxRecDepth 1000000
def T_CL_0_4 := tCL 48 52
def m_CL_0_4 : Mo := ⟨[], [0, 4, 1], [⟨0, 0, 5, 0, List.replicate 5 false, coCL2, List.replicate 26 0⟩]⟩
def c_CL_0_4 := cCL 0 3 T_CL_0_4 .nilsl [] [] m_CL_0_4
def o_CL_0_4 := onceOf T_CL_0_4 m_CL_0_4 0
theorem a_CL_0_4 : onceB o_CL_0_4 [5855, 5857, 5859, 5861, 5869] (VE prims3 999 n8 o_CL_0_4.args emptyH) = true := by kernel_rfl
theorem q_CL_0_4 (x : Int) (P : List AV → AHeap → R) : Look o_CL_0_4 c_CL_0_4 x (fun call => S3_8 call (I 0) (I 4) (.int .u32 x) H0) P := by unfold Look; kernel_rfl
theorem ok_CL_0_4 (x : Int) : Says n3 [I 0, I 4, .int .u32 x] :=
 text_ok (n := 3000) a_CL_0_4 (by kernel_rfl) (U3 _ (freeT _ _ (by decide)) 999 _ _ _ _) (q_CL_0_4 x) (by kernel_rfl) ⟨rfl, rfl, rfl, rfl, rfl, rfl, rfl⟩
def T_CL_0_5 := tCL 48 53
def m_CL_0_5 : Mo := ⟨[], [0, 5, 1], [⟨0, 0, 5, 0, List.replicate 5 false, coCL2, List.replicate 26 0⟩]⟩
def c_CL_0_5 := cCL 0 3 T_CL_0_5 .nilsl [] [] m_CL_0_5
def o_CL_0_5 := onceOf T_CL_0_5 m_CL_0_5 0
theorem a_CL_0_5 : onceB o_CL_0_5 [5855, 5857, 5859, 5861, 5869] (VE prims3 999 n8 o_CL_0_5.args emptyH) = true := by kernel_rfl
theorem q_CL_0_5 (x : Int) (P : List AV → AHeap → R) : Look o_CL_0_5 c_CL_0_5 x (fun call => S3_8 call (I 0) (I 5) (.int .u32 x) H0) P := by unfold Look; kernel_rfl
theorem ok_CL_0_5 (x : Int) : Says n3 [I 0, I 5, .int .u32 x] :=
 text_ok (n := 3000) a_CL_0_5 (by kernel_rfl) (U3 _ (freeT _ _ (by decide)) 999 _ _ _ _) (q_CL_0_5 x) (by kernel_rfl) ⟨rfl, rfl, rfl, rfl, rfl, rfl, rfl⟩
def T_CL_0_6 := tCL 48 54
def m_CL_0_6 : Mo := ⟨[], [0, 6, 1], [⟨0, 0, 5, 0, List.replicate 5 false, coCL2, List.replicate 26 0⟩]⟩
def c_CL_0_6 := cCL 0 3 T_CL_0_6 .nilsl [] [] m_CL_0_6
def o_CL_0_6 := onceOf T_CL_0_6 m_CL_0_6 0
theorem a_CL_0_6 : onceB o_CL_0_6 [5855, 5857, 5859, 5861, 5869] (VE prims3 999 n8 o_CL_0_6.args emptyH) = true := by kernel_rfl
theorem q_CL_0_6 (x : Int) (P : List AV → AHeap → R) : Look o_CL_0_6 c_CL_0_6 x (fun call => S3_8 call (I 0) (I 6) (.int .u32 x) H0) P := by unfold Look; kernel_rfl
theorem ok_CL_0_6 (x : Int) : Says n3 [I 0, I 6, .int .u32 x] :=
 text_ok (n := 3000) a_CL_0_6 (by kernel_rfl) (U3 _ (freeT _ _ (by decide)) 999 _ _ _ _) (q_CL_0_6 x) (by kernel_rfl) ⟨rfl, rfl, rfl, rfl, rfl, rfl, rfl⟩
def T_CL_1_0 := tCL 49 48
def m_CL_1_0 : Mo := ⟨[], [0, 1], [⟨0, 0, 5, 0, List.replicate 5 false, coCL3, List.replicate 26 0⟩]⟩
def c_CL_1_0 := cCL 2 2 T_CL_1_0 (.sl 1 0 1 none) [0] [1] m_CL_1_0
def o_CL_1_0 := onceOf T_CL_1_0 m_CL_1_0 0
theorem a_CL_1_0 : onceB o_CL_1_0 [5853, 5855, 5857, 5859, 5867] (VE prims3 999 n8 o_CL_1_0.args emptyH) = true := by kernel_rfl
theorem q_CL_1_0 (x : Int) (P : List AV → AHeap → R) : Look o_CL_1_0 c_CL_1_0 x (fun call => S3_8 call (I 1) (I 0) (.int .u32 x) H0) P := by unfold Look; kernel_rfl
theorem ok_CL_1_0 (x : Int) : Says n3 [I 1, I 0, .int .u32 x] :=
 text_ok (n := 3000) a_CL_1_0 (by kernel_rfl) (U3 _ (freeT _ _ (by decide)) 999 _ _ _ _) (q_CL_1_0 x) (by kernel_rfl) ⟨rfl, rfl, rfl, rfl, rfl, rfl, rfl⟩
end
end Go.Proofs.YtlmcgeiacfbdnaaGreatDoor
