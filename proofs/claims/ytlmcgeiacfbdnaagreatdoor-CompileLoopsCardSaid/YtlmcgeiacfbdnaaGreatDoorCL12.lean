/- Texts of CompileLoops: each one's compiling, its machine's beginning, its run. -/
import Derived.Test.YtlmcgeiacfbdnaaGreatDoorCLa
namespace Go.Proofs.YtlmcgeiacfbdnaaGreatDoor
open Go.Ab
noncomputable section
set_option maxRecDepth 1000000
def T_CL_6_6 := tCL 54 54
def m_CL_6_6 : Mo := ⟨[], [0, 6, 1], [⟨0, 0, 5, 0, List.replicate 5 false, coCL8, List.replicate 26 0⟩]⟩
def c_CL_6_6 := cCL 12 3 T_CL_6_6 (.sl 11 0 6 none) [0, 15, 45, 90, 150, 225] [11] m_CL_6_6
def o_CL_6_6 := onceOf T_CL_6_6 m_CL_6_6 0
theorem a_CL_6_6 : onceB o_CL_6_6 [5855, 5857, 5859, 5861, 5869] (VE prims3 999 n8 o_CL_6_6.args emptyH) = true := by kernel_rfl
theorem q_CL_6_6 (x : Int) (P : List AV → AHeap → R) : Look o_CL_6_6 c_CL_6_6 x (fun call => S3_8 call (I 6) (I 6) (.int .u32 x) H0) P := by unfold Look; kernel_rfl
theorem ok_CL_6_6 (x : Int) : Says n3 [I 6, I 6, .int .u32 x] :=
 text_ok (n := 3000) a_CL_6_6 (by kernel_rfl) (U3 _ (freeT _ _ (by decide)) 999 _ _ _ _) (q_CL_6_6 x) (by kernel_rfl) ⟨rfl, rfl, rfl, rfl, rfl, rfl, rfl⟩
def T_CL_7_0 := tCL 55 48
def m_CL_7_0 : Mo := ⟨[], [0, 7, 1], [⟨0, 0, 5, 0, List.replicate 5 false, coCL6, List.replicate 26 0⟩]⟩
def c_CL_7_0 := cCL 14 3 T_CL_7_0 (.sl 13 0 7 none) [0, 0, 0, 0, 0, 0, 0] [13] m_CL_7_0
def o_CL_7_0 := onceOf T_CL_7_0 m_CL_7_0 0
theorem a_CL_7_0 : onceB o_CL_7_0 [5855, 5857, 5859, 5861, 5869] (VE prims3 999 n8 o_CL_7_0.args emptyH) = true := by kernel_rfl
theorem q_CL_7_0 (x : Int) (P : List AV → AHeap → R) : Look o_CL_7_0 c_CL_7_0 x (fun call => S3_8 call (I 7) (I 0) (.int .u32 x) H0) P := by unfold Look; kernel_rfl
theorem ok_CL_7_0 (x : Int) : Says n3 [I 7, I 0, .int .u32 x] :=
 text_ok (n := 3000) a_CL_7_0 (by kernel_rfl) (U3 _ (freeT _ _ (by decide)) 999 _ _ _ _) (q_CL_7_0 x) (by kernel_rfl) ⟨rfl, rfl, rfl, rfl, rfl, rfl, rfl⟩
def T_CL_7_1 := tCL 55 49
def m_CL_7_1 : Mo := ⟨[], [0, 7, 1], [⟨0, 0, 5, 0, List.replicate 5 false, coCL7, List.replicate 26 0⟩]⟩
def c_CL_7_1 := cCL 14 3 T_CL_7_1 (.sl 13 0 7 none) [0, 0, 0, 0, 0, 0, 0] [13] m_CL_7_1
def o_CL_7_1 := onceOf T_CL_7_1 m_CL_7_1 0
theorem a_CL_7_1 : onceB o_CL_7_1 [5855, 5857, 5859, 5861, 5869] (VE prims3 999 n8 o_CL_7_1.args emptyH) = true := by kernel_rfl
theorem q_CL_7_1 (x : Int) (P : List AV → AHeap → R) : Look o_CL_7_1 c_CL_7_1 x (fun call => S3_8 call (I 7) (I 1) (.int .u32 x) H0) P := by unfold Look; kernel_rfl
theorem ok_CL_7_1 (x : Int) : Says n3 [I 7, I 1, .int .u32 x] :=
 text_ok (n := 3000) a_CL_7_1 (by kernel_rfl) (U3 _ (freeT _ _ (by decide)) 999 _ _ _ _) (q_CL_7_1 x) (by kernel_rfl) ⟨rfl, rfl, rfl, rfl, rfl, rfl, rfl⟩
def T_CL_7_2 := tCL 55 50
def m_CL_7_2 : Mo := ⟨[], [0, 7, 2, 1], [⟨0, 0, 5, 0, List.replicate 5 false, coCL9, List.replicate 26 0⟩]⟩
def c_CL_7_2 := cCL 14 4 T_CL_7_2 (.sl 13 0 7 none) [0, 1, 3, 6, 10, 15, 21] [13] m_CL_7_2
def o_CL_7_2 := onceOf T_CL_7_2 m_CL_7_2 0
theorem a_CL_7_2 : onceB o_CL_7_2 [5857, 5859, 5861, 5863, 5871] (VE prims3 999 n8 o_CL_7_2.args emptyH) = true := by kernel_rfl
theorem q_CL_7_2 (x : Int) (P : List AV → AHeap → R) : Look o_CL_7_2 c_CL_7_2 x (fun call => S3_8 call (I 7) (I 2) (.int .u32 x) H0) P := by unfold Look; kernel_rfl
theorem ok_CL_7_2 (x : Int) : Says n3 [I 7, I 2, .int .u32 x] :=
 text_ok (n := 3000) a_CL_7_2 (by kernel_rfl) (U3 _ (freeT _ _ (by decide)) 999 _ _ _ _) (q_CL_7_2 x) (by kernel_rfl) ⟨rfl, rfl, rfl, rfl, rfl, rfl, rfl⟩
end
end Go.Proofs.YtlmcgeiacfbdnaaGreatDoor
