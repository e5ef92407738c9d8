/- Texts of CompileLoops: each one's compiling, its machine's beginning, its run. -/
import Derived.Test.YtlmcgeiacfbdnaaGreatDoorCLa
namespace Go.Proofs.YtlmcgeiacfbdnaaGreatDoor
open Go.Ab
noncomputable section
set_option maxRecDepth 1000000
def T_CL_6_2 := tCL 54 50
def m_CL_6_2 : Mo := ⟨[], [0, 6, 2, 1], [⟨0, 0, 5, 0, List.replicate 5 false, coCL9, List.replicate 26 0⟩]⟩
def c_CL_6_2 := cCL 12 4 T_CL_6_2 (.sl 11 0 6 none) [0, 1, 3, 6, 10, 15] [11] m_CL_6_2
def o_CL_6_2 := onceOf T_CL_6_2 m_CL_6_2 0
theorem a_CL_6_2 : onceB o_CL_6_2 [5857, 5859, 5861, 5863, 5871] (VE prims3 999 n8 o_CL_6_2.args emptyH) = true := by kernel_rfl
theorem q_CL_6_2 (x : Int) (P : List AV → AHeap → R) : Look o_CL_6_2 c_CL_6_2 x (fun call => S3_8 call (I 6) (I 2) (.int .u32 x) H0) P := by unfold Look; kernel_rfl
theorem ok_CL_6_2 (x : Int) : Says n3 [I 6, I 2, .int .u32 x] :=
 text_ok (n := 3000) a_CL_6_2 (by kernel_rfl) (U3 _ (freeT _ _ (by decide)) 999 _ _ _ _) (q_CL_6_2 x) (by kernel_rfl) ⟨rfl, rfl, rfl, rfl, rfl, rfl, rfl⟩
def T_CL_6_3 := tCL 54 51
def m_CL_6_3 : Mo := ⟨[], [0, 6, 3, 1], [⟨0, 0, 5, 0, List.replicate 5 false, coCL9, List.replicate 26 0⟩]⟩
def c_CL_6_3 := cCL 12 4 T_CL_6_3 (.sl 11 0 6 none) [0, 3, 9, 18, 30, 45] [11] m_CL_6_3
def o_CL_6_3 := onceOf T_CL_6_3 m_CL_6_3 0
theorem a_CL_6_3 : onceB o_CL_6_3 [5857, 5859, 5861, 5863, 5871] (VE prims3 999 n8 o_CL_6_3.args emptyH) = true := by kernel_rfl
theorem q_CL_6_3 (x : Int) (P : List AV → AHeap → R) : Look o_CL_6_3 c_CL_6_3 x (fun call => S3_8 call (I 6) (I 3) (.int .u32 x) H0) P := by unfold Look; kernel_rfl
theorem ok_CL_6_3 (x : Int) : Says n3 [I 6, I 3, .int .u32 x] :=
 text_ok (n := 3000) a_CL_6_3 (by kernel_rfl) (U3 _ (freeT _ _ (by decide)) 999 _ _ _ _) (q_CL_6_3 x) (by kernel_rfl) ⟨rfl, rfl, rfl, rfl, rfl, rfl, rfl⟩
def T_CL_6_4 := tCL 54 52
def m_CL_6_4 : Mo := ⟨[], [0, 6, 4, 1], [⟨0, 0, 5, 0, List.replicate 5 false, coCL9, List.replicate 26 0⟩]⟩
def c_CL_6_4 := cCL 12 4 T_CL_6_4 (.sl 11 0 6 none) [0, 6, 18, 36, 60, 90] [11] m_CL_6_4
def o_CL_6_4 := onceOf T_CL_6_4 m_CL_6_4 0
theorem a_CL_6_4 : onceB o_CL_6_4 [5857, 5859, 5861, 5863, 5871] (VE prims3 999 n8 o_CL_6_4.args emptyH) = true := by kernel_rfl
theorem q_CL_6_4 (x : Int) (P : List AV → AHeap → R) : Look o_CL_6_4 c_CL_6_4 x (fun call => S3_8 call (I 6) (I 4) (.int .u32 x) H0) P := by unfold Look; kernel_rfl
theorem ok_CL_6_4 (x : Int) : Says n3 [I 6, I 4, .int .u32 x] :=
 text_ok (n := 3000) a_CL_6_4 (by kernel_rfl) (U3 _ (freeT _ _ (by decide)) 999 _ _ _ _) (q_CL_6_4 x) (by kernel_rfl) ⟨rfl, rfl, rfl, rfl, rfl, rfl, rfl⟩
def T_CL_6_5 := tCL 54 53
def m_CL_6_5 : Mo := ⟨[], [0, 6, 5, 1], [⟨0, 0, 5, 0, List.replicate 5 false, coCL9, List.replicate 26 0⟩]⟩
def c_CL_6_5 := cCL 12 4 T_CL_6_5 (.sl 11 0 6 none) [0, 10, 30, 60, 100, 150] [11] m_CL_6_5
def o_CL_6_5 := onceOf T_CL_6_5 m_CL_6_5 0
theorem a_CL_6_5 : onceB o_CL_6_5 [5857, 5859, 5861, 5863, 5871] (VE prims3 999 n8 o_CL_6_5.args emptyH) = true := by kernel_rfl
theorem q_CL_6_5 (x : Int) (P : List AV → AHeap → R) : Look o_CL_6_5 c_CL_6_5 x (fun call => S3_8 call (I 6) (I 5) (.int .u32 x) H0) P := by unfold Look; kernel_rfl
theorem ok_CL_6_5 (x : Int) : Says n3 [I 6, I 5, .int .u32 x] :=
 text_ok (n := 3000) a_CL_6_5 (by kernel_rfl) (U3 _ (freeT _ _ (by decide)) 999 _ _ _ _) (q_CL_6_5 x) (by kernel_rfl) ⟨rfl, rfl, rfl, rfl, rfl, rfl, rfl⟩
end
end Go.Proofs.YtlmcgeiacfbdnaaGreatDoor
