/- Texts of CompileLoops: each one's compiling, its machine's beginning, its run. -/
import Derived.Test.YtlmcgeiacfbdnaaGreatDoorCLa
namespace Go.Proofs.YtlmcgeiacfbdnaaGreatDoor
open Go.Ab
noncomputable section
set_option maxRecDepth 1000000
def T_CL_2_2 := tCL 50 50
def m_CL_2_2 : Mo := ⟨[], [0, 2, 1], [⟨0, 0, 5, 0, List.replicate 5 false, coCL8, List.replicate 26 0⟩]⟩
def c_CL_2_2 := cCL 4 3 T_CL_2_2 (.sl 3 0 2 none) [0, 1] [3] m_CL_2_2
def o_CL_2_2 := onceOf T_CL_2_2 m_CL_2_2 0
theorem a_CL_2_2 : onceB o_CL_2_2 [5855, 5857, 5859, 5861, 5869] (VE prims3 999 n8 o_CL_2_2.args emptyH) = true := by kernel_rfl
theorem q_CL_2_2 (x : Int) (P : List AV → AHeap → R) : Look o_CL_2_2 c_CL_2_2 x (fun call => S3_8 call (I 2) (I 2) (.int .u32 x) H0) P := by unfold Look; kernel_rfl
theorem ok_CL_2_2 (x : Int) : Says n3 [I 2, I 2, .int .u32 x] :=
 text_ok (n := 3000) a_CL_2_2 (by kernel_rfl) (U3 _ (freeT _ _ (by decide)) 999 _ _ _ _) (q_CL_2_2 x) (by kernel_rfl) ⟨rfl, rfl, rfl, rfl, rfl, rfl, rfl⟩
def T_CL_2_3 := tCL 50 51
def m_CL_2_3 : Mo := ⟨[], [0, 2, 3, 1], [⟨0, 0, 5, 0, List.replicate 5 false, coCL9, List.replicate 26 0⟩]⟩
def c_CL_2_3 := cCL 4 4 T_CL_2_3 (.sl 3 0 2 none) [0, 3] [3] m_CL_2_3
def o_CL_2_3 := onceOf T_CL_2_3 m_CL_2_3 0
theorem a_CL_2_3 : onceB o_CL_2_3 [5857, 5859, 5861, 5863, 5871] (VE prims3 999 n8 o_CL_2_3.args emptyH) = true := by kernel_rfl
theorem q_CL_2_3 (x : Int) (P : List AV → AHeap → R) : Look o_CL_2_3 c_CL_2_3 x (fun call => S3_8 call (I 2) (I 3) (.int .u32 x) H0) P := by unfold Look; kernel_rfl
theorem ok_CL_2_3 (x : Int) : Says n3 [I 2, I 3, .int .u32 x] :=
 text_ok (n := 3000) a_CL_2_3 (by kernel_rfl) (U3 _ (freeT _ _ (by decide)) 999 _ _ _ _) (q_CL_2_3 x) (by kernel_rfl) ⟨rfl, rfl, rfl, rfl, rfl, rfl, rfl⟩
def T_CL_2_4 := tCL 50 52
def m_CL_2_4 : Mo := ⟨[], [0, 2, 4, 1], [⟨0, 0, 5, 0, List.replicate 5 false, coCL9, List.replicate 26 0⟩]⟩
def c_CL_2_4 := cCL 4 4 T_CL_2_4 (.sl 3 0 2 none) [0, 6] [3] m_CL_2_4
def o_CL_2_4 := onceOf T_CL_2_4 m_CL_2_4 0
theorem a_CL_2_4 : onceB o_CL_2_4 [5857, 5859, 5861, 5863, 5871] (VE prims3 999 n8 o_CL_2_4.args emptyH) = true := by kernel_rfl
theorem q_CL_2_4 (x : Int) (P : List AV → AHeap → R) : Look o_CL_2_4 c_CL_2_4 x (fun call => S3_8 call (I 2) (I 4) (.int .u32 x) H0) P := by unfold Look; kernel_rfl
theorem ok_CL_2_4 (x : Int) : Says n3 [I 2, I 4, .int .u32 x] :=
 text_ok (n := 3000) a_CL_2_4 (by kernel_rfl) (U3 _ (freeT _ _ (by decide)) 999 _ _ _ _) (q_CL_2_4 x) (by kernel_rfl) ⟨rfl, rfl, rfl, rfl, rfl, rfl, rfl⟩
def T_CL_2_5 := tCL 50 53
def m_CL_2_5 : Mo := ⟨[], [0, 2, 5, 1], [⟨0, 0, 5, 0, List.replicate 5 false, coCL9, List.replicate 26 0⟩]⟩
def c_CL_2_5 := cCL 4 4 T_CL_2_5 (.sl 3 0 2 none) [0, 10] [3] m_CL_2_5
def o_CL_2_5 := onceOf T_CL_2_5 m_CL_2_5 0
theorem a_CL_2_5 : onceB o_CL_2_5 [5857, 5859, 5861, 5863, 5871] (VE prims3 999 n8 o_CL_2_5.args emptyH) = true := by kernel_rfl
theorem q_CL_2_5 (x : Int) (P : List AV → AHeap → R) : Look o_CL_2_5 c_CL_2_5 x (fun call => S3_8 call (I 2) (I 5) (.int .u32 x) H0) P := by unfold Look; kernel_rfl
theorem ok_CL_2_5 (x : Int) : Says n3 [I 2, I 5, .int .u32 x] :=
 text_ok (n := 3000) a_CL_2_5 (by kernel_rfl) (U3 _ (freeT _ _ (by decide)) 999 _ _ _ _) (q_CL_2_5 x) (by kernel_rfl) ⟨rfl, rfl, rfl, rfl, rfl, rfl, rfl⟩
end
end Go.Proofs.YtlmcgeiacfbdnaaGreatDoor
