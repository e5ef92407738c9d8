/- Texts of CompileLoops: each one's compiling, its machine's beginning, its run. -/
import Derived.Test.YtlmcgeiacfbdnaaGreatDoorCLa
namespace Go.Proofs.YtlmcgeiacfbdnaaGreatDoor
open Go.Ab
noncomputable section
set_option maxRecDepth 1000000
def T_CL_4_4 := tCL 52 52
def m_CL_4_4 : Mo := ⟨[], [0, 4, 1], [⟨0, 0, 5, 0, List.replicate 5 false, coCL8, List.replicate 26 0⟩]⟩
def c_CL_4_4 := cCL 8 3 T_CL_4_4 (.sl 7 0 4 none) [0, 6, 18, 36] [7] m_CL_4_4
def o_CL_4_4 := onceOf T_CL_4_4 m_CL_4_4 0
theorem a_CL_4_4 : onceB o_CL_4_4 [5855, 5857, 5859, 5861, 5869] (VE prims3 999 n8 o_CL_4_4.args emptyH) = true := by kernel_rfl
theorem q_CL_4_4 (x : Int) (P : List AV → AHeap → R) : Look o_CL_4_4 c_CL_4_4 x (fun call => S3_8 call (I 4) (I 4) (.int .u32 x) H0) P := by unfold Look; kernel_rfl
theorem ok_CL_4_4 (x : Int) : Says n3 [I 4, I 4, .int .u32 x] :=
 text_ok (n := 3000) a_CL_4_4 (by kernel_rfl) (U3 _ (freeT _ _ (by decide)) 999 _ _ _ _) (q_CL_4_4 x) (by kernel_rfl) ⟨rfl, rfl, rfl, rfl, rfl, rfl, rfl⟩
def T_CL_4_5 := tCL 52 53
def m_CL_4_5 : Mo := ⟨[], [0, 4, 5, 1], [⟨0, 0, 5, 0, List.replicate 5 false, coCL9, List.replicate 26 0⟩]⟩
def c_CL_4_5 := cCL 8 4 T_CL_4_5 (.sl 7 0 4 none) [0, 10, 30, 60] [7] m_CL_4_5
def o_CL_4_5 := onceOf T_CL_4_5 m_CL_4_5 0
theorem a_CL_4_5 : onceB o_CL_4_5 [5857, 5859, 5861, 5863, 5871] (VE prims3 999 n8 o_CL_4_5.args emptyH) = true := by kernel_rfl
theorem q_CL_4_5 (x : Int) (P : List AV → AHeap → R) : Look o_CL_4_5 c_CL_4_5 x (fun call => S3_8 call (I 4) (I 5) (.int .u32 x) H0) P := by unfold Look; kernel_rfl
theorem ok_CL_4_5 (x : Int) : Says n3 [I 4, I 5, .int .u32 x] :=
 text_ok (n := 3000) a_CL_4_5 (by kernel_rfl) (U3 _ (freeT _ _ (by decide)) 999 _ _ _ _) (q_CL_4_5 x) (by kernel_rfl) ⟨rfl, rfl, rfl, rfl, rfl, rfl, rfl⟩
def T_CL_4_6 := tCL 52 54
def m_CL_4_6 : Mo := ⟨[], [0, 4, 6, 1], [⟨0, 0, 5, 0, List.replicate 5 false, coCL9, List.replicate 26 0⟩]⟩
def c_CL_4_6 := cCL 8 4 T_CL_4_6 (.sl 7 0 4 none) [0, 15, 45, 90] [7] m_CL_4_6
def o_CL_4_6 := onceOf T_CL_4_6 m_CL_4_6 0
theorem a_CL_4_6 : onceB o_CL_4_6 [5857, 5859, 5861, 5863, 5871] (VE prims3 999 n8 o_CL_4_6.args emptyH) = true := by kernel_rfl
theorem q_CL_4_6 (x : Int) (P : List AV → AHeap → R) : Look o_CL_4_6 c_CL_4_6 x (fun call => S3_8 call (I 4) (I 6) (.int .u32 x) H0) P := by unfold Look; kernel_rfl
theorem ok_CL_4_6 (x : Int) : Says n3 [I 4, I 6, .int .u32 x] :=
 text_ok (n := 3000) a_CL_4_6 (by kernel_rfl) (U3 _ (freeT _ _ (by decide)) 999 _ _ _ _) (q_CL_4_6 x) (by kernel_rfl) ⟨rfl, rfl, rfl, rfl, rfl, rfl, rfl⟩
def T_CL_5_0 := tCL 53 48
def m_CL_5_0 : Mo := ⟨[], [0, 5, 1], [⟨0, 0, 5, 0, List.replicate 5 false, coCL6, List.replicate 26 0⟩]⟩
def c_CL_5_0 := cCL 10 3 T_CL_5_0 (.sl 9 0 5 none) [0, 0, 0, 0, 0] [9] m_CL_5_0
def o_CL_5_0 := onceOf T_CL_5_0 m_CL_5_0 0
theorem a_CL_5_0 : onceB o_CL_5_0 [5855, 5857, 5859, 5861, 5869] (VE prims3 999 n8 o_CL_5_0.args emptyH) = true := by kernel_rfl
theorem q_CL_5_0 (x : Int) (P : List AV → AHeap → R) : Look o_CL_5_0 c_CL_5_0 x (fun call => S3_8 call (I 5) (I 0) (.int .u32 x) H0) P := by unfold Look; kernel_rfl
theorem ok_CL_5_0 (x : Int) : Says n3 [I 5, I 0, .int .u32 x] :=
 text_ok (n := 3000) a_CL_5_0 (by kernel_rfl) (U3 _ (freeT _ _ (by decide)) 999 _ _ _ _) (q_CL_5_0 x) (by kernel_rfl) ⟨rfl, rfl, rfl, rfl, rfl, rfl, rfl⟩
end
end Go.Proofs.YtlmcgeiacfbdnaaGreatDoor
