/- Texts of CompileLoops: each one's compiling, its machine's beginning, its run. -/
import Derived.Test.YtlmcgeiacfbdnaaGreatDoorCLa
namespace Go.Proofs.YtlmcgeiacfbdnaaGreatDoor
open Go.Ab
noncomputable section
set_option maxRecDepth 1000000
def T_CL_7_3 := tCL 55 51
def m_CL_7_3 : Mo := ⟨[], [0, 7, 3, 1], [⟨0, 0, 5, 0, List.replicate 5 false, coCL9, List.replicate 26 0⟩]⟩
def c_CL_7_3 := cCL 14 4 T_CL_7_3 (.sl 13 0 7 none) [0, 3, 9, 18, 30, 45, 63] [13] m_CL_7_3
def o_CL_7_3 := onceOf T_CL_7_3 m_CL_7_3 0
theorem a_CL_7_3 : onceB o_CL_7_3 [5857, 5859, 5861, 5863, 5871] (VE prims3 999 n8 o_CL_7_3.args emptyH) = true := by kernel_rfl
theorem q_CL_7_3 (x : Int) (P : List AV → AHeap → R) : Look o_CL_7_3 c_CL_7_3 x (fun call => S3_8 call (I 7) (I 3) (.int .u32 x) H0) P := by unfold Look; kernel_rfl
theorem ok_CL_7_3 (x : Int) : Says n3 [I 7, I 3, .int .u32 x] :=
 text_ok (n := 3000) a_CL_7_3 (by kernel_rfl) (U3 _ (freeT _ _ (by decide)) 999 _ _ _ _) (q_CL_7_3 x) (by kernel_rfl) ⟨rfl, rfl, rfl, rfl, rfl, rfl, rfl⟩
def T_CL_7_4 := tCL 55 52
def m_CL_7_4 : Mo := ⟨[], [0, 7, 4, 1], [⟨0, 0, 5, 0, List.replicate 5 false, coCL9, List.replicate 26 0⟩]⟩
def c_CL_7_4 := cCL 14 4 T_CL_7_4 (.sl 13 0 7 none) [0, 6, 18, 36, 60, 90, 126] [13] m_CL_7_4
def o_CL_7_4 := onceOf T_CL_7_4 m_CL_7_4 0
theorem a_CL_7_4 : onceB o_CL_7_4 [5857, 5859, 5861, 5863, 5871] (VE prims3 999 n8 o_CL_7_4.args emptyH) = true := by kernel_rfl
theorem q_CL_7_4 (x : Int) (P : List AV → AHeap → R) : Look o_CL_7_4 c_CL_7_4 x (fun call => S3_8 call (I 7) (I 4) (.int .u32 x) H0) P := by unfold Look; kernel_rfl
theorem ok_CL_7_4 (x : Int) : Says n3 [I 7, I 4, .int .u32 x] :=
 text_ok (n := 3000) a_CL_7_4 (by kernel_rfl) (U3 _ (freeT _ _ (by decide)) 999 _ _ _ _) (q_CL_7_4 x) (by kernel_rfl) ⟨rfl, rfl, rfl, rfl, rfl, rfl, rfl⟩
def T_CL_7_5 := tCL 55 53
def m_CL_7_5 : Mo := ⟨[], [0, 7, 5, 1], [⟨0, 0, 5, 0, List.replicate 5 false, coCL9, List.replicate 26 0⟩]⟩
def c_CL_7_5 := cCL 14 4 T_CL_7_5 (.sl 13 0 7 none) [0, 10, 30, 60, 100, 150, 210] [13] m_CL_7_5
def o_CL_7_5 := onceOf T_CL_7_5 m_CL_7_5 0
theorem a_CL_7_5 : onceB o_CL_7_5 [5857, 5859, 5861, 5863, 5871] (VE prims3 999 n8 o_CL_7_5.args emptyH) = true := by kernel_rfl
theorem q_CL_7_5 (x : Int) (P : List AV → AHeap → R) : Look o_CL_7_5 c_CL_7_5 x (fun call => S3_8 call (I 7) (I 5) (.int .u32 x) H0) P := by unfold Look; kernel_rfl
theorem ok_CL_7_5 (x : Int) : Says n3 [I 7, I 5, .int .u32 x] :=
 text_ok (n := 3000) a_CL_7_5 (by kernel_rfl) (U3 _ (freeT _ _ (by decide)) 999 _ _ _ _) (q_CL_7_5 x) (by kernel_rfl) ⟨rfl, rfl, rfl, rfl, rfl, rfl, rfl⟩
def T_CL_7_6 := tCL 55 54
def m_CL_7_6 : Mo := ⟨[], [0, 7, 6, 1], [⟨0, 0, 5, 0, List.replicate 5 false, coCL9, List.replicate 26 0⟩]⟩
def c_CL_7_6 := cCL 14 4 T_CL_7_6 (.sl 13 0 7 none) [0, 15, 45, 90, 150, 225, 315] [13] m_CL_7_6
def o_CL_7_6 := onceOf T_CL_7_6 m_CL_7_6 0
theorem a_CL_7_6 : onceB o_CL_7_6 [5857, 5859, 5861, 5863, 5871] (VE prims3 999 n8 o_CL_7_6.args emptyH) = true := by kernel_rfl
theorem q_CL_7_6 (x : Int) (P : List AV → AHeap → R) : Look o_CL_7_6 c_CL_7_6 x (fun call => S3_8 call (I 7) (I 6) (.int .u32 x) H0) P := by unfold Look; kernel_rfl
theorem ok_CL_7_6 (x : Int) : Says n3 [I 7, I 6, .int .u32 x] :=
 text_ok (n := 3000) a_CL_7_6 (by kernel_rfl) (U3 _ (freeT _ _ (by decide)) 999 _ _ _ _) (q_CL_7_6 x) (by kernel_rfl) ⟨rfl, rfl, rfl, rfl, rfl, rfl, rfl⟩
end
end Go.Proofs.YtlmcgeiacfbdnaaGreatDoor
