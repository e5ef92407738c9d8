/- Texts of CompileLoops: each one's compiling, its machine's beginning, its run. -/
import Derived.Test.YtlmcgeiacfbdnaaGreatDoorCLa
namespace Go.Proofs.YtlmcgeiacfbdnaaGreatDoor
open Go.Ab
noncomputable section
set_option maxRecDepth 1000000
def T_CL_4_0 := tCL 52 48
def m_CL_4_0 : Mo := ⟨[], [0, 4, 1], [⟨0, 0, 5, 0, List.replicate 5 false, coCL6, List.replicate 26 0⟩]⟩
def c_CL_4_0 := cCL 8 3 T_CL_4_0 (.sl 7 0 4 none) [0, 0, 0, 0] [7] m_CL_4_0
def o_CL_4_0 := onceOf T_CL_4_0 m_CL_4_0 0
theorem a_CL_4_0 : onceB o_CL_4_0 [5855, 5857, 5859, 5861, 5869] (VE prims3 999 n8 o_CL_4_0.args emptyH) = true := by kernel_rfl
theorem q_CL_4_0 (x : Int) (P : List AV → AHeap → R) : Look o_CL_4_0 c_CL_4_0 x (fun call => S3_8 call (I 4) (I 0) (.int .u32 x) H0) P := by unfold Look; kernel_rfl
theorem ok_CL_4_0 (x : Int) : Says n3 [I 4, I 0, .int .u32 x] :=
 text_ok (n := 3000) a_CL_4_0 (by kernel_rfl) (U3 _ (freeT _ _ (by decide)) 999 _ _ _ _) (q_CL_4_0 x) (by kernel_rfl) ⟨rfl, rfl, rfl, rfl, rfl, rfl, rfl⟩
def T_CL_4_1 := tCL 52 49
def m_CL_4_1 : Mo := ⟨[], [0, 4, 1], [⟨0, 0, 5, 0, List.replicate 5 false, coCL7, List.replicate 26 0⟩]⟩
def c_CL_4_1 := cCL 8 3 T_CL_4_1 (.sl 7 0 4 none) [0, 0, 0, 0] [7] m_CL_4_1
def o_CL_4_1 := onceOf T_CL_4_1 m_CL_4_1 0
theorem a_CL_4_1 : onceB o_CL_4_1 [5855, 5857, 5859, 5861, 5869] (VE prims3 999 n8 o_CL_4_1.args emptyH) = true := by kernel_rfl
theorem q_CL_4_1 (x : Int) (P : List AV → AHeap → R) : Look o_CL_4_1 c_CL_4_1 x (fun call => S3_8 call (I 4) (I 1) (.int .u32 x) H0) P := by unfold Look; kernel_rfl
theorem ok_CL_4_1 (x : Int) : Says n3 [I 4, I 1, .int .u32 x] :=
 text_ok (n := 3000) a_CL_4_1 (by kernel_rfl) (U3 _ (freeT _ _ (by decide)) 999 _ _ _ _) (q_CL_4_1 x) (by kernel_rfl) ⟨rfl, rfl, rfl, rfl, rfl, rfl, rfl⟩
def T_CL_4_2 := tCL 52 50
def m_CL_4_2 : Mo := ⟨[], [0, 4, 2, 1], [⟨0, 0, 5, 0, List.replicate 5 false, coCL9, List.replicate 26 0⟩]⟩
def c_CL_4_2 := cCL 8 4 T_CL_4_2 (.sl 7 0 4 none) [0, 1, 3, 6] [7] m_CL_4_2
def o_CL_4_2 := onceOf T_CL_4_2 m_CL_4_2 0
theorem a_CL_4_2 : onceB o_CL_4_2 [5857, 5859, 5861, 5863, 5871] (VE prims3 999 n8 o_CL_4_2.args emptyH) = true := by kernel_rfl
theorem q_CL_4_2 (x : Int) (P : List AV → AHeap → R) : Look o_CL_4_2 c_CL_4_2 x (fun call => S3_8 call (I 4) (I 2) (.int .u32 x) H0) P := by unfold Look; kernel_rfl
theorem ok_CL_4_2 (x : Int) : Says n3 [I 4, I 2, .int .u32 x] :=
 text_ok (n := 3000) a_CL_4_2 (by kernel_rfl) (U3 _ (freeT _ _ (by decide)) 999 _ _ _ _) (q_CL_4_2 x) (by kernel_rfl) ⟨rfl, rfl, rfl, rfl, rfl, rfl, rfl⟩
def T_CL_4_3 := tCL 52 51
def m_CL_4_3 : Mo := ⟨[], [0, 4, 3, 1], [⟨0, 0, 5, 0, List.replicate 5 false, coCL9, List.replicate 26 0⟩]⟩
def c_CL_4_3 := cCL 8 4 T_CL_4_3 (.sl 7 0 4 none) [0, 3, 9, 18] [7] m_CL_4_3
def o_CL_4_3 := onceOf T_CL_4_3 m_CL_4_3 0
theorem a_CL_4_3 : onceB o_CL_4_3 [5857, 5859, 5861, 5863, 5871] (VE prims3 999 n8 o_CL_4_3.args emptyH) = true := by kernel_rfl
theorem q_CL_4_3 (x : Int) (P : List AV → AHeap → R) : Look o_CL_4_3 c_CL_4_3 x (fun call => S3_8 call (I 4) (I 3) (.int .u32 x) H0) P := by unfold Look; kernel_rfl
theorem ok_CL_4_3 (x : Int) : Says n3 [I 4, I 3, .int .u32 x] :=
 text_ok (n := 3000) a_CL_4_3 (by kernel_rfl) (U3 _ (freeT _ _ (by decide)) 999 _ _ _ _) (q_CL_4_3 x) (by kernel_rfl) ⟨rfl, rfl, rfl, rfl, rfl, rfl, rfl⟩
end
end Go.Proofs.YtlmcgeiacfbdnaaGreatDoor
