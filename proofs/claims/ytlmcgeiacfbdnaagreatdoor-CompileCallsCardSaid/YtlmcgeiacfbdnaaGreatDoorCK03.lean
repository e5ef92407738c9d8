/- Texts of CompileCalls: each one's compiling, its machine's beginning, its run. -/
import Derived.Test.YtlmcgeiacfbdnaaGreatDoorCKa
namespace Go.Proofs.YtlmcgeiacfbdnaaGreatDoor
open Go.Ab
noncomputable section
set_option maxRecDepth 1000000
def T_CK_6 := tCK 54 54
def m_CK_6 : Mo := ⟨[], [2, 1, 0, 6], [⟨1, 0, 6, 1, List.replicate 6 false, coCK0, List.replicate 14 0⟩, ⟨1, 0, 4, 1, List.replicate 4 false, coCK1, List.replicate 11 0⟩, ⟨1, 0, 4, 1, List.replicate 4 false, coCK2, List.replicate 11 0⟩, ⟨0, 0, 2, 0, List.replicate 2 false, coCK6, List.replicate 7 0⟩]⟩
def c_CK_6 := cCK 1 4 T_CK_6 (.sl 0 0 2 (some 2)) [1, 8] [0] m_CK_6
def o_CK_6 := onceOf T_CK_6 m_CK_6 3
theorem a_CK_6 : onceB o_CK_6 [10651, 10653, 10655, 10657, 10683, 10661, 10663, 10984, 10667, 10669, 11213, 10673, 10675, 11442] (VE prims3 999 n8 o_CK_6.args emptyH) = true := by kernel_rfl
theorem q_CK_6 (x : Int) (P : List AV → AHeap → R) : Look o_CK_6 c_CK_6 x (fun call => S4_3 call (I 6) (.int .u32 x) H0) P := by unfold Look; kernel_rfl
theorem ok_CK_6 (x : Int) : Says n4 [I 6, .int .u32 x] :=
 text_ok (n := 3000) a_CK_6 (by kernel_rfl) (U4 _ (freeT _ _ (by decide)) 999 _ _ _) (q_CK_6 x) (by kernel_rfl) ⟨rfl, rfl, rfl, rfl, rfl, rfl, rfl⟩
def T_CK_7 := tCK 55 55
def m_CK_7 : Mo := ⟨[], [2, 1, 0, 7], [⟨1, 0, 6, 1, List.replicate 6 false, coCK0, List.replicate 14 0⟩, ⟨1, 0, 4, 1, List.replicate 4 false, coCK1, List.replicate 11 0⟩, ⟨1, 0, 4, 1, List.replicate 4 false, coCK2, List.replicate 11 0⟩, ⟨0, 0, 2, 0, List.replicate 2 false, coCK6, List.replicate 7 0⟩]⟩
def c_CK_7 := cCK 1 4 T_CK_7 (.sl 0 0 2 (some 2)) [0, 13] [0] m_CK_7
def o_CK_7 := onceOf T_CK_7 m_CK_7 3
theorem a_CK_7 : onceB o_CK_7 [10651, 10653, 10655, 10657, 10683, 10661, 10663, 10984, 10667, 10669, 11213, 10673, 10675, 11442] (VE prims3 999 n8 o_CK_7.args emptyH) = true := by kernel_rfl
theorem q_CK_7 (x : Int) (P : List AV → AHeap → R) : Look o_CK_7 c_CK_7 x (fun call => S4_3 call (I 7) (.int .u32 x) H0) P := by unfold Look; kernel_rfl
theorem ok_CK_7 (x : Int) : Says n4 [I 7, .int .u32 x] :=
 text_ok (n := 3000) a_CK_7 (by kernel_rfl) (U4 _ (freeT _ _ (by decide)) 999 _ _ _) (q_CK_7 x) (by kernel_rfl) ⟨rfl, rfl, rfl, rfl, rfl, rfl, rfl⟩
end
end Go.Proofs.YtlmcgeiacfbdnaaGreatDoor
