/- Texts of CompileLoops: each one's compiling, its machine's beginning, its run. -/
import Derived.Test.YtlmcgeiacfbdnaaGreatDoorCLa
namespace Go.Proofs.YtlmcgeiacfbdnaaGreatDoor
open Go.Ab
noncomputable section
set_option maxRecDepth 1000000
def T_CL_5_1 := tCL 53 49
def m_CL_5_1 : Mo := ⟨[], [0, 5, 1], [⟨0, 0, 5, 0, List.replicate 5 false, coCL7, List.replicate 26 0⟩]⟩
def c_CL_5_1 := cCL 10 3 T_CL_5_1 (.sl 9 0 5 none) [0, 0, 0, 0, 0] [9] m_CL_5_1
def o_CL_5_1 := onceOf T_CL_5_1 m_CL_5_1 0
theorem a_CL_5_1 : onceB o_CL_5_1 [5855, 5857, 5859, 5861, 5869] (VE prims3 999 n8 o_CL_5_1.args emptyH) = true := by kernel_rfl
theorem q_CL_5_1 (x : Int) (P : List AV → AHeap → R) : Look o_CL_5_1 c_CL_5_1 x (fun call => S3_8 call (I 5) (I 1) (.int .u32 x) H0) P := by unfold Look; kernel_rfl
theorem ok_CL_5_1 (x : Int) : Says n3 [I 5, I 1, .int .u32 x] :=
 text_ok (n := 3000) a_CL_5_1 (by kernel_rfl) (U3 _ (freeT _ _ (by decide)) 999 _ _ _ _) (q_CL_5_1 x) (by kernel_rfl) ⟨rfl, rfl, rfl, rfl, rfl, rfl, rfl⟩
def T_CL_5_2 := tCL 53 50
def m_CL_5_2 : Mo := ⟨[], [0, 5, 2, 1], [⟨0, 0, 5, 0, List.replicate 5 false, coCL9, List.replicate 26 0⟩]⟩
def c_CL_5_2 := cCL 10 4 T_CL_5_2 (.sl 9 0 5 none) [0, 1, 3, 6, 10] [9] m_CL_5_2
def o_CL_5_2 := onceOf T_CL_5_2 m_CL_5_2 0
theorem a_CL_5_2 : onceB o_CL_5_2 [5857, 5859, 5861, 5863, 5871] (VE prims3 999 n8 o_CL_5_2.args emptyH) = true := by kernel_rfl
theorem q_CL_5_2 (x : Int) (P : List AV → AHeap → R) : Look o_CL_5_2 c_CL_5_2 x (fun call => S3_8 call (I 5) (I 2) (.int .u32 x) H0) P := by unfold Look; kernel_rfl
theorem ok_CL_5_2 (x : Int) : Says n3 [I 5, I 2, .int .u32 x] :=
 text_ok (n := 3000) a_CL_5_2 (by kernel_rfl) (U3 _ (freeT _ _ (by decide)) 999 _ _ _ _) (q_CL_5_2 x) (by kernel_rfl) ⟨rfl, rfl, rfl, rfl, rfl, rfl, rfl⟩
def T_CL_5_3 := tCL 53 51
def m_CL_5_3 : Mo := ⟨[], [0, 5, 3, 1], [⟨0, 0, 5, 0, List.replicate 5 false, coCL9, List.replicate 26 0⟩]⟩
def c_CL_5_3 := cCL 10 4 T_CL_5_3 (.sl 9 0 5 none) [0, 3, 9, 18, 30] [9] m_CL_5_3
def o_CL_5_3 := onceOf T_CL_5_3 m_CL_5_3 0
theorem a_CL_5_3 : onceB o_CL_5_3 [5857, 5859, 5861, 5863, 5871] (VE prims3 999 n8 o_CL_5_3.args emptyH) = true := by kernel_rfl
theorem q_CL_5_3 (x : Int) (P : List AV → AHeap → R) : Look o_CL_5_3 c_CL_5_3 x (fun call => S3_8 call (I 5) (I 3) (.int .u32 x) H0) P := by unfold Look; kernel_rfl
theorem ok_CL_5_3 (x : Int) : Says n3 [I 5, I 3, .int .u32 x] :=
 text_ok (n := 3000) a_CL_5_3 (by kernel_rfl) (U3 _ (freeT _ _ (by decide)) 999 _ _ _ _) (q_CL_5_3 x) (by kernel_rfl) ⟨rfl, rfl, rfl, rfl, rfl, rfl, rfl⟩
def T_CL_5_4 := tCL 53 52
def m_CL_5_4 : Mo := ⟨[], [0, 5, 4, 1], [⟨0, 0, 5, 0, List.replicate 5 false, coCL9, List.replicate 26 0⟩]⟩
def c_CL_5_4 := cCL 10 4 T_CL_5_4 (.sl 9 0 5 none) [0, 6, 18, 36, 60] [9] m_CL_5_4
def o_CL_5_4 := onceOf T_CL_5_4 m_CL_5_4 0
theorem a_CL_5_4 : onceB o_CL_5_4 [5857, 5859, 5861, 5863, 5871] (VE prims3 999 n8 o_CL_5_4.args emptyH) = true := by kernel_rfl
theorem q_CL_5_4 (x : Int) (P : List AV → AHeap → R) : Look o_CL_5_4 c_CL_5_4 x (fun call => S3_8 call (I 5) (I 4) (.int .u32 x) H0) P := by unfold Look; kernel_rfl
theorem ok_CL_5_4 (x : Int) : Says n3 [I 5, I 4, .int .u32 x] :=
 text_ok (n := 3000) a_CL_5_4 (by kernel_rfl) (U3 _ (freeT _ _ (by decide)) 999 _ _ _ _) (q_CL_5_4 x) (by kernel_rfl) ⟨rfl, rfl, rfl, rfl, rfl, rfl, rfl⟩
end
end Go.Proofs.YtlmcgeiacfbdnaaGreatDoor
