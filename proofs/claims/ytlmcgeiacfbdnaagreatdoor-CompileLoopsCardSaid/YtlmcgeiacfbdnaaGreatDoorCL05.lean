/- Texts of CompileLoops: each one's compiling, its machine's beginning, its run. -/
import Derived.Test.YtlmcgeiacfbdnaaGreatDoorCLa
namespace Go.Proofs.YtlmcgeiacfbdnaaGreatDoor
open Go.Ab
noncomputable section
set_option maxRecDepth 1000000
def T_CL_2_6 := tCL 50 54
def m_CL_2_6 : Mo := ⟨[], [0, 2, 6, 1], [⟨0, 0, 5, 0, List.replicate 5 false, coCL9, List.replicate 26 0⟩]⟩
def c_CL_2_6 := cCL 4 4 T_CL_2_6 (.sl 3 0 2 none) [0, 15] [3] m_CL_2_6
def o_CL_2_6 := onceOf T_CL_2_6 m_CL_2_6 0
theorem a_CL_2_6 : onceB o_CL_2_6 [5857, 5859, 5861, 5863, 5871] (VE prims3 999 n8 o_CL_2_6.args emptyH) = true := by kernel_rfl
theorem q_CL_2_6 (x : Int) (P : List AV → AHeap → R) : Look o_CL_2_6 c_CL_2_6 x (fun call => S3_8 call (I 2) (I 6) (.int .u32 x) H0) P := by unfold Look; kernel_rfl
theorem ok_CL_2_6 (x : Int) : Says n3 [I 2, I 6, .int .u32 x] :=
 text_ok (n := 3000) a_CL_2_6 (by kernel_rfl) (U3 _ (freeT _ _ (by decide)) 999 _ _ _ _) (q_CL_2_6 x) (by kernel_rfl) ⟨rfl, rfl, rfl, rfl, rfl, rfl, rfl⟩
def T_CL_3_0 := tCL 51 48
def m_CL_3_0 : Mo := ⟨[], [0, 3, 1], [⟨0, 0, 5, 0, List.replicate 5 false, coCL6, List.replicate 26 0⟩]⟩
def c_CL_3_0 := cCL 6 3 T_CL_3_0 (.sl 5 0 3 none) [0, 0, 0] [5] m_CL_3_0
def o_CL_3_0 := onceOf T_CL_3_0 m_CL_3_0 0
theorem a_CL_3_0 : onceB o_CL_3_0 [5855, 5857, 5859, 5861, 5869] (VE prims3 999 n8 o_CL_3_0.args emptyH) = true := by kernel_rfl
theorem q_CL_3_0 (x : Int) (P : List AV → AHeap → R) : Look o_CL_3_0 c_CL_3_0 x (fun call => S3_8 call (I 3) (I 0) (.int .u32 x) H0) P := by unfold Look; kernel_rfl
theorem ok_CL_3_0 (x : Int) : Says n3 [I 3, I 0, .int .u32 x] :=
 text_ok (n := 3000) a_CL_3_0 (by kernel_rfl) (U3 _ (freeT _ _ (by decide)) 999 _ _ _ _) (q_CL_3_0 x) (by kernel_rfl) ⟨rfl, rfl, rfl, rfl, rfl, rfl, rfl⟩
def T_CL_3_1 := tCL 51 49
def m_CL_3_1 : Mo := ⟨[], [0, 3, 1], [⟨0, 0, 5, 0, List.replicate 5 false, coCL7, List.replicate 26 0⟩]⟩
def c_CL_3_1 := cCL 6 3 T_CL_3_1 (.sl 5 0 3 none) [0, 0, 0] [5] m_CL_3_1
def o_CL_3_1 := onceOf T_CL_3_1 m_CL_3_1 0
theorem a_CL_3_1 : onceB o_CL_3_1 [5855, 5857, 5859, 5861, 5869] (VE prims3 999 n8 o_CL_3_1.args emptyH) = true := by kernel_rfl
theorem q_CL_3_1 (x : Int) (P : List AV → AHeap → R) : Look o_CL_3_1 c_CL_3_1 x (fun call => S3_8 call (I 3) (I 1) (.int .u32 x) H0) P := by unfold Look; kernel_rfl
theorem ok_CL_3_1 (x : Int) : Says n3 [I 3, I 1, .int .u32 x] :=
 text_ok (n := 3000) a_CL_3_1 (by kernel_rfl) (U3 _ (freeT _ _ (by decide)) 999 _ _ _ _) (q_CL_3_1 x) (by kernel_rfl) ⟨rfl, rfl, rfl, rfl, rfl, rfl, rfl⟩
def T_CL_3_2 := tCL 51 50
def m_CL_3_2 : Mo := ⟨[], [0, 3, 2, 1], [⟨0, 0, 5, 0, List.replicate 5 false, coCL9, List.replicate 26 0⟩]⟩
def c_CL_3_2 := cCL 6 4 T_CL_3_2 (.sl 5 0 3 none) [0, 1, 3] [5] m_CL_3_2
def o_CL_3_2 := onceOf T_CL_3_2 m_CL_3_2 0
theorem a_CL_3_2 : onceB o_CL_3_2 [5857, 5859, 5861, 5863, 5871] (VE prims3 999 n8 o_CL_3_2.args emptyH) = true := by kernel_rfl
theorem q_CL_3_2 (x : Int) (P : List AV → AHeap → R) : Look o_CL_3_2 c_CL_3_2 x (fun call => S3_8 call (I 3) (I 2) (.int .u32 x) H0) P := by unfold Look; kernel_rfl
theorem ok_CL_3_2 (x : Int) : Says n3 [I 3, I 2, .int .u32 x] :=
 text_ok (n := 3000) a_CL_3_2 (by kernel_rfl) (U3 _ (freeT _ _ (by decide)) 999 _ _ _ _) (q_CL_3_2 x) (by kernel_rfl) ⟨rfl, rfl, rfl, rfl, rfl, rfl, rfl⟩
end
end Go.Proofs.YtlmcgeiacfbdnaaGreatDoor
