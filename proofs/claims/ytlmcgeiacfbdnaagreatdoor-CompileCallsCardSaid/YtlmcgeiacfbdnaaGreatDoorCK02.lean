/- Texts of CompileCalls: each one's compiling, its machine's beginning, its run. -/
import Derived.Test.YtlmcgeiacfbdnaaGreatDoorCKa
namespace Go.Proofs.YtlmcgeiacfbdnaaGreatDoor
open Go.Ab
noncomputable section
set_option maxRecDepth 1000000
def T_CK_4 := tCK 52 52
def m_CK_4 : Mo := ⟨[], [2, 1, 0, 4], [⟨1, 0, 6, 1, List.replicate 6 false, coCK0, List.replicate 14 0⟩, ⟨1, 0, 4, 1, List.replicate 4 false, coCK1, List.replicate 11 0⟩, ⟨1, 0, 4, 1, List.replicate 4 false, coCK2, List.replicate 11 0⟩, ⟨0, 0, 2, 0, List.replicate 2 false, coCK6, List.replicate 7 0⟩]⟩
def c_CK_4 := cCK 1 4 T_CK_4 (.sl 0 0 2 (some 2)) [1, 3] [0] m_CK_4
def o_CK_4 := onceOf T_CK_4 m_CK_4 3
theorem a_CK_4 : onceB o_CK_4 [10651, 10653, 10655, 10657, 10683, 10661, 10663, 10984, 10667, 10669, 11213, 10673, 10675, 11442] (VE prims3 999 n8 o_CK_4.args emptyH) = true := by kernel_rfl
theorem q_CK_4 (x : Int) (P : List AV → AHeap → R) : Look o_CK_4 c_CK_4 x (fun call => S4_3 call (I 4) (.int .u32 x) H0) P := by unfold Look; kernel_rfl
theorem ok_CK_4 (x : Int) : Says n4 [I 4, .int .u32 x] :=
 text_ok (n := 3000) a_CK_4 (by kernel_rfl) (U4 _ (freeT _ _ (by decide)) 999 _ _ _) (q_CK_4 x) (by kernel_rfl) ⟨rfl, rfl, rfl, rfl, rfl, rfl, rfl⟩
def T_CK_5 := tCK 53 53
def m_CK_5 : Mo := ⟨[], [2, 1, 0, 5], [⟨1, 0, 6, 1, List.replicate 6 false, coCK0, List.replicate 14 0⟩, ⟨1, 0, 4, 1, List.replicate 4 false, coCK1, List.replicate 11 0⟩, ⟨1, 0, 4, 1, List.replicate 4 false, coCK2, List.replicate 11 0⟩, ⟨0, 0, 2, 0, List.replicate 2 false, coCK6, List.replicate 7 0⟩]⟩
def c_CK_5 := cCK 1 4 T_CK_5 (.sl 0 0 2 (some 2)) [0, 5] [0] m_CK_5
def o_CK_5 := onceOf T_CK_5 m_CK_5 3
theorem a_CK_5 : onceB o_CK_5 [10651, 10653, 10655, 10657, 10683, 10661, 10663, 10984, 10667, 10669, 11213, 10673, 10675, 11442] (VE prims3 999 n8 o_CK_5.args emptyH) = true := by kernel_rfl
theorem q_CK_5 (x : Int) (P : List AV → AHeap → R) : Look o_CK_5 c_CK_5 x (fun call => S4_3 call (I 5) (.int .u32 x) H0) P := by unfold Look; kernel_rfl
theorem ok_CK_5 (x : Int) : Says n4 [I 5, .int .u32 x] :=
 text_ok (n := 3000) a_CK_5 (by kernel_rfl) (U4 _ (freeT _ _ (by decide)) 999 _ _ _) (q_CK_5 x) (by kernel_rfl) ⟨rfl, rfl, rfl, rfl, rfl, rfl, rfl⟩
end
end Go.Proofs.YtlmcgeiacfbdnaaGreatDoor
