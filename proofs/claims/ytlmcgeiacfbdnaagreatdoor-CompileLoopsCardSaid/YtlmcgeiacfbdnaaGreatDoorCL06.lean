/- Texts of CompileLoops: each one's compiling, its machine's beginning, its run. -/
import Derived.Test.YtlmcgeiacfbdnaaGreatDoorCLa
namespace Go.Proofs.YtlmcgeiacfbdnaaGreatDoor
open Go.Ab
noncomputable section
set_option maxRecDepth 1000000
def T_CL_3_3 := tCL 51 51
def m_CL_3_3 : Mo := ⟨[], [0, 3, 1], [⟨0, 0, 5, 0, List.replicate 5 false, coCL8, List.replicate 26 0⟩]⟩
def c_CL_3_3 := cCL 6 3 T_CL_3_3 (.sl 5 0 3 none) [0, 3, 9] [5] m_CL_3_3
def o_CL_3_3 := onceOf T_CL_3_3 m_CL_3_3 0
theorem a_CL_3_3 : onceB o_CL_3_3 [5855, 5857, 5859, 5861, 5869] (VE prims3 999 n8 o_CL_3_3.args emptyH) = true := by kernel_rfl
theorem q_CL_3_3 (x : Int) (P : List AV → AHeap → R) : Look o_CL_3_3 c_CL_3_3 x (fun call => S3_8 call (I 3) (I 3) (.int .u32 x) H0) P := by unfold Look; kernel_rfl
theorem ok_CL_3_3 (x : Int) : Says n3 [I 3, I 3, .int .u32 x] :=
 text_ok (n := 3000) a_CL_3_3 (by kernel_rfl) (U3 _ (freeT _ _ (by decide)) 999 _ _ _ _) (q_CL_3_3 x) (by kernel_rfl) ⟨rfl, rfl, rfl, rfl, rfl, rfl, rfl⟩
def T_CL_3_4 := tCL 51 52
def m_CL_3_4 : Mo := ⟨[], [0, 3, 4, 1], [⟨0, 0, 5, 0, List.replicate 5 false, coCL9, List.replicate 26 0⟩]⟩
def c_CL_3_4 := cCL 6 4 T_CL_3_4 (.sl 5 0 3 none) [0, 6, 18] [5] m_CL_3_4
def o_CL_3_4 := onceOf T_CL_3_4 m_CL_3_4 0
theorem a_CL_3_4 : onceB o_CL_3_4 [5857, 5859, 5861, 5863, 5871] (VE prims3 999 n8 o_CL_3_4.args emptyH) = true := by kernel_rfl
theorem q_CL_3_4 (x : Int) (P : List AV → AHeap → R) : Look o_CL_3_4 c_CL_3_4 x (fun call => S3_8 call (I 3) (I 4) (.int .u32 x) H0) P := by unfold Look; kernel_rfl
theorem ok_CL_3_4 (x : Int) : Says n3 [I 3, I 4, .int .u32 x] :=
 text_ok (n := 3000) a_CL_3_4 (by kernel_rfl) (U3 _ (freeT _ _ (by decide)) 999 _ _ _ _) (q_CL_3_4 x) (by kernel_rfl) ⟨rfl, rfl, rfl, rfl, rfl, rfl, rfl⟩
def T_CL_3_5 := tCL 51 53
def m_CL_3_5 : Mo := ⟨[], [0, 3, 5, 1], [⟨0, 0, 5, 0, List.replicate 5 false, coCL9, List.replicate 26 0⟩]⟩
def c_CL_3_5 := cCL 6 4 T_CL_3_5 (.sl 5 0 3 none) [0, 10, 30] [5] m_CL_3_5
def o_CL_3_5 := onceOf T_CL_3_5 m_CL_3_5 0
theorem a_CL_3_5 : onceB o_CL_3_5 [5857, 5859, 5861, 5863, 5871] (VE prims3 999 n8 o_CL_3_5.args emptyH) = true := by kernel_rfl
theorem q_CL_3_5 (x : Int) (P : List AV → AHeap → R) : Look o_CL_3_5 c_CL_3_5 x (fun call => S3_8 call (I 3) (I 5) (.int .u32 x) H0) P := by unfold Look; kernel_rfl
theorem ok_CL_3_5 (x : Int) : Says n3 [I 3, I 5, .int .u32 x] :=
 text_ok (n := 3000) a_CL_3_5 (by kernel_rfl) (U3 _ (freeT _ _ (by decide)) 999 _ _ _ _) (q_CL_3_5 x) (by kernel_rfl) ⟨rfl, rfl, rfl, rfl, rfl, rfl, rfl⟩
def T_CL_3_6 := tCL 51 54
def m_CL_3_6 : Mo := ⟨[], [0, 3, 6, 1], [⟨0, 0, 5, 0, List.replicate 5 false, coCL9, List.replicate 26 0⟩]⟩
def c_CL_3_6 := cCL 6 4 T_CL_3_6 (.sl 5 0 3 none) [0, 15, 45] [5] m_CL_3_6
def o_CL_3_6 := onceOf T_CL_3_6 m_CL_3_6 0
theorem a_CL_3_6 : onceB o_CL_3_6 [5857, 5859, 5861, 5863, 5871] (VE prims3 999 n8 o_CL_3_6.args emptyH) = true := by kernel_rfl
theorem q_CL_3_6 (x : Int) (P : List AV → AHeap → R) : Look o_CL_3_6 c_CL_3_6 x (fun call => S3_8 call (I 3) (I 6) (.int .u32 x) H0) P := by unfold Look; kernel_rfl
theorem ok_CL_3_6 (x : Int) : Says n3 [I 3, I 6, .int .u32 x] :=
 text_ok (n := 3000) a_CL_3_6 (by kernel_rfl) (U3 _ (freeT _ _ (by decide)) 999 _ _ _ _) (q_CL_3_6 x) (by kernel_rfl) ⟨rfl, rfl, rfl, rfl, rfl, rfl, rfl⟩
end
end Go.Proofs.YtlmcgeiacfbdnaaGreatDoor
