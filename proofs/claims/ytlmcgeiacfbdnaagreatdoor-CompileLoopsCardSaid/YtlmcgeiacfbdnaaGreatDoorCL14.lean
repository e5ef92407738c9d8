/- Texts of CompileLoops: each one's compiling, its machine's beginning, its run. -/
import Derived.Test.YtlmcgeiacfbdnaaGreatDoorCLa
namespace Go.Proofs.YtlmcgeiacfbdnaaGreatDoor
open Go.Ab
noncomputable section
set_option maxRecDepth 1000000
def T_CL_8_0 := tCL 56 48
def m_CL_8_0 : Mo := ⟨[], [0, 8, 1], [⟨0, 0, 5, 0, List.replicate 5 false, coCL6, List.replicate 26 0⟩]⟩
def c_CL_8_0 := cCL 16 3 T_CL_8_0 (.sl 15 0 8 none) [0, 0, 0, 0, 0, 0, 0, 0] [15] m_CL_8_0
def o_CL_8_0 := onceOf T_CL_8_0 m_CL_8_0 0
theorem a_CL_8_0 : onceB o_CL_8_0 [5855, 5857, 5859, 5861, 5869] (VE prims3 999 n8 o_CL_8_0.args emptyH) = true := by kernel_rfl
theorem q_CL_8_0 (x : Int) (P : List AV → AHeap → R) : Look o_CL_8_0 c_CL_8_0 x (fun call => S3_8 call (I 8) (I 0) (.int .u32 x) H0) P := by unfold Look; kernel_rfl
theorem ok_CL_8_0 (x : Int) : Says n3 [I 8, I 0, .int .u32 x] :=
 text_ok (n := 3000) a_CL_8_0 (by kernel_rfl) (U3 _ (freeT _ _ (by decide)) 999 _ _ _ _) (q_CL_8_0 x) (by kernel_rfl) ⟨rfl, rfl, rfl, rfl, rfl, rfl, rfl⟩
def T_CL_8_1 := tCL 56 49
def m_CL_8_1 : Mo := ⟨[], [0, 8, 1], [⟨0, 0, 5, 0, List.replicate 5 false, coCL7, List.replicate 26 0⟩]⟩
def c_CL_8_1 := cCL 16 3 T_CL_8_1 (.sl 15 0 8 none) [0, 0, 0, 0, 0, 0, 0, 0] [15] m_CL_8_1
def o_CL_8_1 := onceOf T_CL_8_1 m_CL_8_1 0
theorem a_CL_8_1 : onceB o_CL_8_1 [5855, 5857, 5859, 5861, 5869] (VE prims3 999 n8 o_CL_8_1.args emptyH) = true := by kernel_rfl
theorem q_CL_8_1 (x : Int) (P : List AV → AHeap → R) : Look o_CL_8_1 c_CL_8_1 x (fun call => S3_8 call (I 8) (I 1) (.int .u32 x) H0) P := by unfold Look; kernel_rfl
theorem ok_CL_8_1 (x : Int) : Says n3 [I 8, I 1, .int .u32 x] :=
 text_ok (n := 3000) a_CL_8_1 (by kernel_rfl) (U3 _ (freeT _ _ (by decide)) 999 _ _ _ _) (q_CL_8_1 x) (by kernel_rfl) ⟨rfl, rfl, rfl, rfl, rfl, rfl, rfl⟩
def T_CL_8_2 := tCL 56 50
def m_CL_8_2 : Mo := ⟨[], [0, 8, 2, 1], [⟨0, 0, 5, 0, List.replicate 5 false, coCL9, List.replicate 26 0⟩]⟩
def c_CL_8_2 := cCL 16 4 T_CL_8_2 (.sl 15 0 8 none) [0, 1, 3, 6, 10, 15, 21, 28] [15] m_CL_8_2
def o_CL_8_2 := onceOf T_CL_8_2 m_CL_8_2 0
theorem a_CL_8_2 : onceB o_CL_8_2 [5857, 5859, 5861, 5863, 5871] (VE prims3 999 n8 o_CL_8_2.args emptyH) = true := by kernel_rfl
theorem q_CL_8_2 (x : Int) (P : List AV → AHeap → R) : Look o_CL_8_2 c_CL_8_2 x (fun call => S3_8 call (I 8) (I 2) (.int .u32 x) H0) P := by unfold Look; kernel_rfl
theorem ok_CL_8_2 (x : Int) : Says n3 [I 8, I 2, .int .u32 x] :=
 text_ok (n := 3000) a_CL_8_2 (by kernel_rfl) (U3 _ (freeT _ _ (by decide)) 999 _ _ _ _) (q_CL_8_2 x) (by kernel_rfl) ⟨rfl, rfl, rfl, rfl, rfl, rfl, rfl⟩
def T_CL_8_3 := tCL 56 51
def m_CL_8_3 : Mo := ⟨[], [0, 8, 3, 1], [⟨0, 0, 5, 0, List.replicate 5 false, coCL9, List.replicate 26 0⟩]⟩
def c_CL_8_3 := cCL 16 4 T_CL_8_3 (.sl 15 0 8 none) [0, 3, 9, 18, 30, 45, 63, 84] [15] m_CL_8_3
def o_CL_8_3 := onceOf T_CL_8_3 m_CL_8_3 0
theorem a_CL_8_3 : onceB o_CL_8_3 [5857, 5859, 5861, 5863, 5871] (VE prims3 999 n8 o_CL_8_3.args emptyH) = true := by kernel_rfl
theorem q_CL_8_3 (x : Int) (P : List AV → AHeap → R) : Look o_CL_8_3 c_CL_8_3 x (fun call => S3_8 call (I 8) (I 3) (.int .u32 x) H0) P := by unfold Look; kernel_rfl
theorem ok_CL_8_3 (x : Int) : Says n3 [I 8, I 3, .int .u32 x] :=
 text_ok (n := 3000) a_CL_8_3 (by kernel_rfl) (U3 _ (freeT _ _ (by decide)) 999 _ _ _ _) (q_CL_8_3 x) (by kernel_rfl) ⟨rfl, rfl, rfl, rfl, rfl, rfl, rfl⟩
end
end Go.Proofs.YtlmcgeiacfbdnaaGreatDoor
