/- Texts of CompileCalls: each one's compiling, its machine's beginning, its run. -/
import Derived.Test.YtlmcgeiacfbdnaaGreatDoorCKa
namespace Go.Proofs.YtlmcgeiacfbdnaaGreatDoor
open Go.Ab
noncomputable section
set_option maxRecDepth 1000000
def T_CK_2 := tCK 50 50
def m_CK_2 : Mo := ⟨[], [2, 1, 0], [⟨1, 0, 6, 1, List.replicate 6 false, coCK0, List.replicate 14 0⟩, ⟨1, 0, 4, 1, List.replicate 4 false, coCK1, List.replicate 11 0⟩, ⟨1, 0, 4, 1, List.replicate 4 false, coCK2, List.replicate 11 0⟩, ⟨0, 0, 2, 0, List.replicate 2 false, coCK5, List.replicate 7 0⟩]⟩
def c_CK_2 := cCK 1 3 T_CK_2 (.sl 0 0 2 (some 2)) [1, 1] [0] m_CK_2
def o_CK_2 := onceOf T_CK_2 m_CK_2 3
theorem a_CK_2 : onceB o_CK_2 [10649, 10651, 10653, 10655, 10681, 10659, 10661, 10982, 10665, 10667, 11211, 10671, 10673, 11440] (VE prims3 999 n8 o_CK_2.args emptyH) = true := by kernel_rfl
theorem q_CK_2 (x : Int) (P : List AV → AHeap → R) : Look o_CK_2 c_CK_2 x (fun call => S4_3 call (I 2) (.int .u32 x) H0) P := by unfold Look; kernel_rfl
theorem ok_CK_2 (x : Int) : Says n4 [I 2, .int .u32 x] :=
 text_ok (n := 3000) a_CK_2 (by kernel_rfl) (U4 _ (freeT _ _ (by decide)) 999 _ _ _) (q_CK_2 x) (by kernel_rfl) ⟨rfl, rfl, rfl, rfl, rfl, rfl, rfl⟩
def T_CK_3 := tCK 51 51
def m_CK_3 : Mo := ⟨[], [2, 1, 0, 3], [⟨1, 0, 6, 1, List.replicate 6 false, coCK0, List.replicate 14 0⟩, ⟨1, 0, 4, 1, List.replicate 4 false, coCK1, List.replicate 11 0⟩, ⟨1, 0, 4, 1, List.replicate 4 false, coCK2, List.replicate 11 0⟩, ⟨0, 0, 2, 0, List.replicate 2 false, coCK6, List.replicate 7 0⟩]⟩
def c_CK_3 := cCK 1 4 T_CK_3 (.sl 0 0 2 (some 2)) [0, 2] [0] m_CK_3
def o_CK_3 := onceOf T_CK_3 m_CK_3 3
theorem a_CK_3 : onceB o_CK_3 [10651, 10653, 10655, 10657, 10683, 10661, 10663, 10984, 10667, 10669, 11213, 10673, 10675, 11442] (VE prims3 999 n8 o_CK_3.args emptyH) = true := by kernel_rfl
theorem q_CK_3 (x : Int) (P : List AV → AHeap → R) : Look o_CK_3 c_CK_3 x (fun call => S4_3 call (I 3) (.int .u32 x) H0) P := by unfold Look; kernel_rfl
theorem ok_CK_3 (x : Int) : Says n4 [I 3, .int .u32 x] :=
 text_ok (n := 3000) a_CK_3 (by kernel_rfl) (U4 _ (freeT _ _ (by decide)) 999 _ _ _) (q_CK_3 x) (by kernel_rfl) ⟨rfl, rfl, rfl, rfl, rfl, rfl, rfl⟩
end
end Go.Proofs.YtlmcgeiacfbdnaaGreatDoor
