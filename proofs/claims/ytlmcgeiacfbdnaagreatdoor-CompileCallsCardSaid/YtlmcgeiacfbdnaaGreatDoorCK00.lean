/- Texts of CompileCalls: each one's compiling, its machine's beginning, its run. -/
import Derived.Test.YtlmcgeiacfbdnaaGreatDoorCKa
namespace Go.Proofs.YtlmcgeiacfbdnaaGreatDoor
open Go.Ab
noncomputable section
set_option maxRecDepth 1000000
def T_CK_0 := tCK 48 48
def m_CK_0 : Mo := ⟨[], [2, 1, 0], [⟨1, 0, 6, 1, List.replicate 6 false, coCK0, List.replicate 14 0⟩, ⟨1, 0, 4, 1, List.replicate 4 false, coCK1, List.replicate 11 0⟩, ⟨1, 0, 4, 1, List.replicate 4 false, coCK2, List.replicate 11 0⟩, ⟨0, 0, 2, 0, List.replicate 2 false, coCK3, List.replicate 7 0⟩]⟩
def c_CK_0 := cCK 1 3 T_CK_0 (.sl 0 0 2 (some 2)) [1, 0] [0] m_CK_0
def o_CK_0 := onceOf T_CK_0 m_CK_0 3
theorem a_CK_0 : onceB o_CK_0 [10649, 10651, 10653, 10655, 10681, 10659, 10661, 10982, 10665, 10667, 11211, 10671, 10673, 11440] (VE prims3 999 n8 o_CK_0.args emptyH) = true := by kernel_rfl
theorem q_CK_0 (x : Int) (P : List AV → AHeap → R) : Look o_CK_0 c_CK_0 x (fun call => S4_3 call (I 0) (.int .u32 x) H0) P := by unfold Look; kernel_rfl
theorem ok_CK_0 (x : Int) : Says n4 [I 0, .int .u32 x] :=
 text_ok (n := 3000) a_CK_0 (by kernel_rfl) (U4 _ (freeT _ _ (by decide)) 999 _ _ _) (q_CK_0 x) (by kernel_rfl) ⟨rfl, rfl, rfl, rfl, rfl, rfl, rfl⟩
def T_CK_1 := tCK 49 49
def m_CK_1 : Mo := ⟨[], [2, 1, 0], [⟨1, 0, 6, 1, List.replicate 6 false, coCK0, List.replicate 14 0⟩, ⟨1, 0, 4, 1, List.replicate 4 false, coCK1, List.replicate 11 0⟩, ⟨1, 0, 4, 1, List.replicate 4 false, coCK2, List.replicate 11 0⟩, ⟨0, 0, 2, 0, List.replicate 2 false, coCK4, List.replicate 7 0⟩]⟩
def c_CK_1 := cCK 1 3 T_CK_1 (.sl 0 0 2 (some 2)) [0, 1] [0] m_CK_1
def o_CK_1 := onceOf T_CK_1 m_CK_1 3
theorem a_CK_1 : onceB o_CK_1 [10649, 10651, 10653, 10655, 10681, 10659, 10661, 10982, 10665, 10667, 11211, 10671, 10673, 11440] (VE prims3 999 n8 o_CK_1.args emptyH) = true := by kernel_rfl
theorem q_CK_1 (x : Int) (P : List AV → AHeap → R) : Look o_CK_1 c_CK_1 x (fun call => S4_3 call (I 1) (.int .u32 x) H0) P := by unfold Look; kernel_rfl
theorem ok_CK_1 (x : Int) : Says n4 [I 1, .int .u32 x] :=
 text_ok (n := 3000) a_CK_1 (by kernel_rfl) (U4 _ (freeT _ _ (by decide)) 999 _ _ _) (q_CK_1 x) (by kernel_rfl) ⟨rfl, rfl, rfl, rfl, rfl, rfl, rfl⟩
end
end Go.Proofs.YtlmcgeiacfbdnaaGreatDoor
