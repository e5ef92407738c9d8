/- Texts of CompileCalls: each one's compiling, its machine's beginning, its run. -/
import Derived.Test.YtlmcgeiacfbdnaaGreatDoorCKa
namespace Go.Proofs.YtlmcgeiacfbdnaaGreatDoor
open Go.Ab
noncomputable section
set_option maxRecDepth 1000000
def T_CK_8 := tCK 56 56
def m_CK_8 : Mo := ⟨[], [2, 1, 0, 8], [⟨1, 0, 6, 1, List.replicate 6 false, coCK0, List.replicate 14 0⟩, ⟨1, 0, 4, 1, List.replicate 4 false, coCK1, List.replicate 11 0⟩, ⟨1, 0, 4, 1, List.replicate 4 false, coCK2, List.replicate 11 0⟩, ⟨0, 0, 2, 0, List.replicate 2 false, coCK6, List.replicate 7 0⟩]⟩
def c_CK_8 := cCK 1 4 T_CK_8 (.sl 0 0 2 (some 2)) [1, 21] [0] m_CK_8
def o_CK_8 := onceOf T_CK_8 m_CK_8 3
theorem a_CK_8 : onceB o_CK_8 [10651, 10653, 10655, 10657, 10683, 10661, 10663, 10984, 10667, 10669, 11213, 10673, 10675, 11442] (VE prims3 999 n8 o_CK_8.args emptyH) = true := by kernel_rfl
theorem q_CK_8 (x : Int) (P : List AV → AHeap → R) : Look o_CK_8 c_CK_8 x (fun call => S4_3 call (I 8) (.int .u32 x) H0) P := by unfold Look; kernel_rfl
theorem ok_CK_8 (x : Int) : Says n4 [I 8, .int .u32 x] :=
 text_ok (n := 3000) a_CK_8 (by kernel_rfl) (U4 _ (freeT _ _ (by decide)) 999 _ _ _) (q_CK_8 x) (by kernel_rfl) ⟨rfl, rfl, rfl, rfl, rfl, rfl, rfl⟩
def T_CK_9 := tCK 57 57
def m_CK_9 : Mo := ⟨[], [2, 1, 0, 9], [⟨1, 0, 6, 1, List.replicate 6 false, coCK0, List.replicate 14 0⟩, ⟨1, 0, 4, 1, List.replicate 4 false, coCK1, List.replicate 11 0⟩, ⟨1, 0, 4, 1, List.replicate 4 false, coCK2, List.replicate 11 0⟩, ⟨0, 0, 2, 0, List.replicate 2 false, coCK6, List.replicate 7 0⟩]⟩
def c_CK_9 := cCK 1 4 T_CK_9 (.sl 0 0 2 (some 2)) [0, 34] [0] m_CK_9
def o_CK_9 := onceOf T_CK_9 m_CK_9 3
theorem a_CK_9 : onceB o_CK_9 [10651, 10653, 10655, 10657, 10683, 10661, 10663, 10984, 10667, 10669, 11213, 10673, 10675, 11442] (VE prims3 999 n8 o_CK_9.args emptyH) = true := by kernel_rfl
theorem q_CK_9 (x : Int) (P : List AV → AHeap → R) : Look o_CK_9 c_CK_9 x (fun call => S4_3 call (I 9) (.int .u32 x) H0) P := by unfold Look; kernel_rfl
theorem ok_CK_9 (x : Int) : Says n4 [I 9, .int .u32 x] :=
 text_ok (n := 3000) a_CK_9 (by kernel_rfl) (U4 _ (freeT _ _ (by decide)) 999 _ _ _) (q_CK_9 x) (by kernel_rfl) ⟨rfl, rfl, rfl, rfl, rfl, rfl, rfl⟩
end
end Go.Proofs.YtlmcgeiacfbdnaaGreatDoor
