/- What a call of each comes to. -/
import Derived.Test.YtlmcgeiacfbdnaaGreatDoorVF
import Derived.Test.YtlmcgeiacfbdnaaGreatDoorA2
import Derived.KernelRfl
namespace Go.Proofs.YtlmcgeiacfbdnaaGreatDoor
open Go.Ab
set_option maxRecDepth 100000
variable (prim : Prims)
noncomputable abbrev VE (n : Nat) : CallFn := evH V_tab prim n
theorem U3 (hp : prim n3 = none) (n : Nat) (t0 t1 t2 : AV) (H : AHeap) : VE prim (n + 1) n3 [t0, t1, t2] H = S3_8 (VE prim n) t0 t1 t2 H :=
 (evH_at (tab := V_tab) (s := S3) hp (tabX_at (by kernel_rfl)) _ _).trans (by simp only [S3, argA3_at])
theorem U4 (hp : prim n4 = none) (n : Nat) (t0 t1 : AV) (H : AHeap) : VE prim (n + 1) n4 [t0, t1] H = S4_3 (VE prim n) t0 t1 H :=
 (evH_at (tab := V_tab) (s := S4) hp (tabX_at (by kernel_rfl)) _ _).trans (by simp only [S4, argA2_at])
theorem U6 (hp : prim n6 = none) (n : Nat) (t0 t1 t2 t3 t4 t5 t6 : AV) (H : AHeap) : VE prim (n + 1) n6 [t0, t1, t2, t3, t4, t5, t6] H = S6_2 (VE prim n) t0 t1 t2 t3 t4 t5 t6 H :=
 (evH_at (tab := V_tab) (s := S6) hp (tabX_at (by kernel_rfl)) _ _).trans (by simp only [S6, argA7_at])
theorem U10 (hp : prim n10 = none) (n : Nat) (t0 t1 t2 : AV) (H : AHeap) : VE prim (n + 1) n10 [t0, t1, t2] H = S10_2 (VE prim n) t0 t1 t2 H :=
 (evH_at (tab := V_tab) (s := S10) hp (tabX_at (by kernel_rfl)) _ _).trans (by simp only [S10, argA3_at])
theorem U12 (hp : prim n12 = none) (n : Nat) (t0 t1 : AV) (H : AHeap) : VE prim (n + 1) n12 [t0, t1] H = S12_1 (VE prim n) t0 t1 H :=
 (evH_at (tab := V_tab) (s := S12) hp (tabX_at (by kernel_rfl)) _ _).trans (by simp only [S12, argA2_at])
theorem U13 (hp : prim n13 = none) (n : Nat) (t0 t1 t2 t3 : AV) (H : AHeap) : VE prim (n + 1) n13 [t0, t1, t2, t3] H = S13_2 (VE prim n) t0 t1 t2 t3 H :=
 (evH_at (tab := V_tab) (s := S13) hp (tabX_at (by kernel_rfl)) _ _).trans (by simp only [S13, argA4_at])
theorem U14 (hp : prim n14 = none) (n : Nat) (t0 t1 : AV) (H : AHeap) : VE prim (n + 1) n14 [t0, t1] H = S14_1 (VE prim n) t0 t1 H :=
 (evH_at (tab := V_tab) (s := S14) hp (tabX_at (by kernel_rfl)) _ _).trans (by simp only [S14, argA2_at])
theorem U21 (hp : prim n21 = none) (n : Nat) (t0 t1 : AV) (H : AHeap) : VE prim (n + 1) n21 [t0, t1] H = S21_1 (VE prim n) t0 t1 H :=
 (evH_at (tab := V_tab) (s := S21) hp (tabX_at (by kernel_rfl)) _ _).trans (by simp only [S21, argA2_at])
theorem U22 (hp : prim n22 = none) (n : Nat) (t0 t1 : AV) (H : AHeap) : VE prim (n + 1) n22 [t0, t1] H = S22_0 (VE prim n) t0 t1 H :=
 (evH_at (tab := V_tab) (s := S22) hp (tabX_at (by kernel_rfl)) _ _).trans (by simp only [S22, argA2_at])
theorem U51 (hp : prim n51 = none) (n : Nat) (t0 : AV) (H : AHeap) : VE prim (n + 1) n51 [t0] H = S51_11 (VE prim n) t0 H :=
 (evH_at (tab := V_tab) (s := S51) hp (tabX_at (by kernel_rfl)) _ _).trans (by simp only [S51, argA1_at])
theorem U52 (hp : prim n52 = none) (n : Nat) (t0 : AV) (H : AHeap) : VE prim (n + 1) n52 [t0] H = S52_0 (VE prim n) t0 H :=
 (evH_at (tab := V_tab) (s := S52) hp (tabX_at (by kernel_rfl)) _ _).trans (by simp only [S52, argA1_at])
theorem U53 (hp : prim n53 = none) (n : Nat) (t0 : AV) (H : AHeap) : VE prim (n + 1) n53 [t0] H = S53_0 (VE prim n) t0 H :=
 (evH_at (tab := V_tab) (s := S53) hp (tabX_at (by kernel_rfl)) _ _).trans (by simp only [S53, argA1_at])
theorem U54 (hp : prim n54 = none) (n : Nat) (t0 : AV) (H : AHeap) : VE prim (n + 1) n54 [t0] H = S54_0 (VE prim n) t0 H :=
 (evH_at (tab := V_tab) (s := S54) hp (tabX_at (by kernel_rfl)) _ _).trans (by simp only [S54, argA1_at])
theorem U55 (hp : prim n55 = none) (n : Nat) (t0 t1 t2 : AV) (H : AHeap) : VE prim (n + 1) n55 [t0, t1, t2] H = S55_4 (VE prim n) t0 t1 t2 H :=
 (evH_at (tab := V_tab) (s := S55) hp (tabX_at (by kernel_rfl)) _ _).trans (by simp only [S55, argA3_at])
theorem U56 (hp : prim n56 = none) (n : Nat) (t0 t1 : AV) (H : AHeap) : VE prim (n + 1) n56 [t0, t1] H = S56_0 (VE prim n) t0 t1 H :=
 (evH_at (tab := V_tab) (s := S56) hp (tabX_at (by kernel_rfl)) _ _).trans (by simp only [S56, argA2_at])
theorem U57 (hp : prim n57 = none) (n : Nat) (t0 : AV) (H : AHeap) : VE prim (n + 1) n57 [t0] H = S57_0 (VE prim n) t0 H :=
 (evH_at (tab := V_tab) (s := S57) hp (tabX_at (by kernel_rfl)) _ _).trans (by simp only [S57, argA1_at])
theorem U58 (hp : prim n58 = none) (n : Nat) (t0 : AV) (H : AHeap) : VE prim (n + 1) n58 [t0] H = S58_0 (VE prim n) t0 H :=
 (evH_at (tab := V_tab) (s := S58) hp (tabX_at (by kernel_rfl)) _ _).trans (by simp only [S58, argA1_at])
theorem U59 (hp : prim n59 = none) (n : Nat) (t0 : AV) (H : AHeap) : VE prim (n + 1) n59 [t0] H = S59_0 (VE prim n) t0 H :=
 (evH_at (tab := V_tab) (s := S59) hp (tabX_at (by kernel_rfl)) _ _).trans (by simp only [S59, argA1_at])
theorem U60 (hp : prim n60 = none) (n : Nat) (t0 : AV) (H : AHeap) : VE prim (n + 1) n60 [t0] H = S60_0 (VE prim n) t0 H :=
 (evH_at (tab := V_tab) (s := S60) hp (tabX_at (by kernel_rfl)) _ _).trans (by simp only [S60, argA1_at])
theorem U61 (hp : prim n61 = none) (n : Nat) (t0 : AV) (H : AHeap) : VE prim (n + 1) n61 [t0] H = S61_0 (VE prim n) t0 H :=
 (evH_at (tab := V_tab) (s := S61) hp (tabX_at (by kernel_rfl)) _ _).trans (by simp only [S61, argA1_at])
theorem U62 (hp : prim n62 = none) (n : Nat) (t0 : AV) (H : AHeap) : VE prim (n + 1) n62 [t0] H = S62_0 (VE prim n) t0 H :=
 (evH_at (tab := V_tab) (s := S62) hp (tabX_at (by kernel_rfl)) _ _).trans (by simp only [S62, argA1_at])
theorem U98 (hp : prim n98 = none) (n : Nat) (t0 : AV) (H : AHeap) : VE prim (n + 1) n98 [t0] H = S98_0 (VE prim n) t0 H :=
 (evH_at (tab := V_tab) (s := S98) hp (tabX_at (by kernel_rfl)) _ _).trans (by simp only [S98, argA1_at])
theorem U104 (hp : prim n104 = none) (n : Nat) (t0 t1 : AV) (H : AHeap) : VE prim (n + 1) n104 [t0, t1] H = S104_0 (VE prim n) t0 t1 H :=
 (evH_at (tab := V_tab) (s := S104) hp (tabX_at (by kernel_rfl)) _ _).trans (by simp only [S104, argA2_at])
theorem U105 (hp : prim n105 = none) (n : Nat) (t0 t1 : AV) (H : AHeap) : VE prim (n + 1) n105 [t0, t1] H = S105_0 (VE prim n) t0 t1 H :=
 (evH_at (tab := V_tab) (s := S105) hp (tabX_at (by kernel_rfl)) _ _).trans (by simp only [S105, argA2_at])
theorem U106 (hp : prim n106 = none) (n : Nat) (t0 t1 : AV) (H : AHeap) : VE prim (n + 1) n106 [t0, t1] H = S106_0 (VE prim n) t0 t1 H :=
 (evH_at (tab := V_tab) (s := S106) hp (tabX_at (by kernel_rfl)) _ _).trans (by simp only [S106, argA2_at])
theorem U107 (hp : prim n107 = none) (n : Nat) (t0 t1 : AV) (H : AHeap) : VE prim (n + 1) n107 [t0, t1] H = S107_0 (VE prim n) t0 t1 H :=
 (evH_at (tab := V_tab) (s := S107) hp (tabX_at (by kernel_rfl)) _ _).trans (by simp only [S107, argA2_at])
theorem U108 (hp : prim n108 = none) (n : Nat) (t0 t1 : AV) (H : AHeap) : VE prim (n + 1) n108 [t0, t1] H = S108_0 (VE prim n) t0 t1 H :=
 (evH_at (tab := V_tab) (s := S108) hp (tabX_at (by kernel_rfl)) _ _).trans (by simp only [S108, argA2_at])
theorem U109 (hp : prim n109 = none) (n : Nat) (t0 t1 : AV) (H : AHeap) : VE prim (n + 1) n109 [t0, t1] H = S109_33 (VE prim n) t0 t1 H :=
 (evH_at (tab := V_tab) (s := S109) hp (tabX_at (by kernel_rfl)) _ _).trans (by simp only [S109, argA2_at])
theorem U110 (hp : prim n110 = none) (n : Nat) (t0 : AV) (H : AHeap) : VE prim (n + 1) n110 [t0] H = S110_0 (VE prim n) t0 H :=
 (evH_at (tab := V_tab) (s := S110) hp (tabX_at (by kernel_rfl)) _ _).trans (by simp only [S110, argA1_at])
theorem U111 (hp : prim n111 = none) (n : Nat) (t0 t1 : AV) (H : AHeap) : VE prim (n + 1) n111 [t0, t1] H = S111_5 (VE prim n) t0 t1 H :=
 (evH_at (tab := V_tab) (s := S111) hp (tabX_at (by kernel_rfl)) _ _).trans (by simp only [S111, argA2_at])
theorem U112 (hp : prim n112 = none) (n : Nat) (t0 : AV) (H : AHeap) : VE prim (n + 1) n112 [t0] H = S112_0 (VE prim n) t0 H :=
 (evH_at (tab := V_tab) (s := S112) hp (tabX_at (by kernel_rfl)) _ _).trans (by simp only [S112, argA1_at])
theorem U113 (hp : prim n113 = none) (n : Nat) (t0 : AV) (H : AHeap) : VE prim (n + 1) n113 [t0] H = S113_5 (VE prim n) t0 H :=
 (evH_at (tab := V_tab) (s := S113) hp (tabX_at (by kernel_rfl)) _ _).trans (by simp only [S113, argA1_at])
theorem U114 (hp : prim n114 = none) (n : Nat) (t0 : AV) (H : AHeap) : VE prim (n + 1) n114 [t0] H = S114_0 (VE prim n) t0 H :=
 (evH_at (tab := V_tab) (s := S114) hp (tabX_at (by kernel_rfl)) _ _).trans (by simp only [S114, argA1_at])
theorem U117 (hp : prim n117 = none) (n : Nat) (t0 t1 : AV) (H : AHeap) : VE prim (n + 1) n117 [t0, t1] H = S117_0 (VE prim n) t0 t1 H :=
 (evH_at (tab := V_tab) (s := S117) hp (tabX_at (by kernel_rfl)) _ _).trans (by simp only [S117, argA2_at])
theorem U157 (hp : prim n157 = none) (n : Nat) (t0 t1 t2 : AV) (H : AHeap) : VE prim (n + 1) n157 [t0, t1, t2] H = S157_3 (VE prim n) t0 t1 t2 H :=
 (evH_at (tab := V_tab) (s := S157) hp (tabX_at (by kernel_rfl)) _ _).trans (by simp only [S157, argA3_at])
theorem U158 (hp : prim n158 = none) (n : Nat) (t0 t1 : AV) (H : AHeap) : VE prim (n + 1) n158 [t0, t1] H = S158_3 (VE prim n) t0 t1 H :=
 (evH_at (tab := V_tab) (s := S158) hp (tabX_at (by kernel_rfl)) _ _).trans (by simp only [S158, argA2_at])
theorem U159 (hp : prim n159 = none) (n : Nat) (t0 : AV) (H : AHeap) : VE prim (n + 1) n159 [t0] H = S159_0 (VE prim n) t0 H :=
 (evH_at (tab := V_tab) (s := S159) hp (tabX_at (by kernel_rfl)) _ _).trans (by simp only [S159, argA1_at])
theorem U160 (hp : prim n160 = none) (n : Nat) (t0 t1 t2 : AV) (H : AHeap) : VE prim (n + 1) n160 [t0, t1, t2] H = S160_0 (VE prim n) t0 t1 t2 H :=
 (evH_at (tab := V_tab) (s := S160) hp (tabX_at (by kernel_rfl)) _ _).trans (by simp only [S160, argA3_at])
theorem U161 (hp : prim n161 = none) (n : Nat) (t0 t1 t2 : AV) (H : AHeap) : VE prim (n + 1) n161 [t0, t1, t2] H = S161_5 (VE prim n) t0 t1 t2 H :=
 (evH_at (tab := V_tab) (s := S161) hp (tabX_at (by kernel_rfl)) _ _).trans (by simp only [S161, argA3_at])
theorem U162 (hp : prim n162 = none) (n : Nat) (t0 t1 : AV) (H : AHeap) : VE prim (n + 1) n162 [t0, t1] H = S162_0 (VE prim n) t0 t1 H :=
 (evH_at (tab := V_tab) (s := S162) hp (tabX_at (by kernel_rfl)) _ _).trans (by simp only [S162, argA2_at])
theorem U163 (hp : prim n163 = none) (n : Nat) (t0 t1 t2 : AV) (H : AHeap) : VE prim (n + 1) n163 [t0, t1, t2] H = S163_2 (VE prim n) t0 t1 t2 H :=
 (evH_at (tab := V_tab) (s := S163) hp (tabX_at (by kernel_rfl)) _ _).trans (by simp only [S163, argA3_at])
theorem U164 (hp : prim n164 = none) (n : Nat) (t0 : AV) (H : AHeap) : VE prim (n + 1) n164 [t0] H = S164_1 (VE prim n) t0 H :=
 (evH_at (tab := V_tab) (s := S164) hp (tabX_at (by kernel_rfl)) _ _).trans (by simp only [S164, argA1_at])
theorem U165 (hp : prim n165 = none) (n : Nat) (t0 : AV) (H : AHeap) : VE prim (n + 1) n165 [t0] H = S165_1 (VE prim n) t0 H :=
 (evH_at (tab := V_tab) (s := S165) hp (tabX_at (by kernel_rfl)) _ _).trans (by simp only [S165, argA1_at])
theorem U166 (hp : prim n166 = none) (n : Nat) (t0 : AV) (H : AHeap) : VE prim (n + 1) n166 [t0] H = S166_1 (VE prim n) t0 H :=
 (evH_at (tab := V_tab) (s := S166) hp (tabX_at (by kernel_rfl)) _ _).trans (by simp only [S166, argA1_at])
theorem U167 (hp : prim n167 = none) (n : Nat) (t0 : AV) (H : AHeap) : VE prim (n + 1) n167 [t0] H = S167_1 (VE prim n) t0 H :=
 (evH_at (tab := V_tab) (s := S167) hp (tabX_at (by kernel_rfl)) _ _).trans (by simp only [S167, argA1_at])
theorem U168 (hp : prim n168 = none) (n : Nat) (t0 : AV) (H : AHeap) : VE prim (n + 1) n168 [t0] H = S168_1 (VE prim n) t0 H :=
 (evH_at (tab := V_tab) (s := S168) hp (tabX_at (by kernel_rfl)) _ _).trans (by simp only [S168, argA1_at])
theorem U169 (hp : prim n169 = none) (n : Nat) (t0 t1 : AV) (H : AHeap) : VE prim (n + 1) n169 [t0, t1] H = S169_1 (VE prim n) t0 t1 H :=
 (evH_at (tab := V_tab) (s := S169) hp (tabX_at (by kernel_rfl)) _ _).trans (by simp only [S169, argA2_at])
theorem U170 (hp : prim n170 = none) (n : Nat) (t0 : AV) (H : AHeap) : VE prim (n + 1) n170 [t0] H = S170_0 (VE prim n) t0 H :=
 (evH_at (tab := V_tab) (s := S170) hp (tabX_at (by kernel_rfl)) _ _).trans (by simp only [S170, argA1_at])
theorem U171 (hp : prim n171 = none) (n : Nat) (t0 : AV) (H : AHeap) : VE prim (n + 1) n171 [t0] H = S171_0 (VE prim n) t0 H :=
 (evH_at (tab := V_tab) (s := S171) hp (tabX_at (by kernel_rfl)) _ _).trans (by simp only [S171, argA1_at])
theorem U172 (hp : prim n172 = none) (n : Nat) (t0 : AV) (H : AHeap) : VE prim (n + 1) n172 [t0] H = S172_0 (VE prim n) t0 H :=
 (evH_at (tab := V_tab) (s := S172) hp (tabX_at (by kernel_rfl)) _ _).trans (by simp only [S172, argA1_at])
theorem U173 (hp : prim n173 = none) (n : Nat) (t0 : AV) (H : AHeap) : VE prim (n + 1) n173 [t0] H = S173_0 (VE prim n) t0 H :=
 (evH_at (tab := V_tab) (s := S173) hp (tabX_at (by kernel_rfl)) _ _).trans (by simp only [S173, argA1_at])
theorem U176 (hp : prim n176 = none) (n : Nat) (t0 t1 : AV) (H : AHeap) : VE prim (n + 1) n176 [t0, t1] H = S176_2 (VE prim n) t0 t1 H :=
 (evH_at (tab := V_tab) (s := S176) hp (tabX_at (by kernel_rfl)) _ _).trans (by simp only [S176, argA2_at])
theorem U177 (hp : prim n177 = none) (n : Nat) (t0 : AV) (H : AHeap) : VE prim (n + 1) n177 [t0] H = S177_0 (VE prim n) t0 H :=
 (evH_at (tab := V_tab) (s := S177) hp (tabX_at (by kernel_rfl)) _ _).trans (by simp only [S177, argA1_at])
theorem U182 (hp : prim n182 = none) (n : Nat) (t0 : AV) (H : AHeap) : VE prim (n + 1) n182 [t0] H = S182_0 (VE prim n) t0 H :=
 (evH_at (tab := V_tab) (s := S182) hp (tabX_at (by kernel_rfl)) _ _).trans (by simp only [S182, argA1_at])
theorem U185 (hp : prim n185 = none) (n : Nat) (t0 t1 : AV) (H : AHeap) : VE prim (n + 1) n185 [t0, t1] H = S185_1 (VE prim n) t0 t1 H :=
 (evH_at (tab := V_tab) (s := S185) hp (tabX_at (by kernel_rfl)) _ _).trans (by simp only [S185, argA2_at])
theorem U241 (hp : prim n241 = none) (n : Nat) (t0 t1 : AV) (H : AHeap) : VE prim (n + 1) n241 [t0, t1] H = S241_1 (VE prim n) t0 t1 H :=
 (evH_at (tab := V_tab) (s := S241) hp (tabX_at (by kernel_rfl)) _ _).trans (by simp only [S241, argA2_at])
theorem U243 (hp : prim n243 = none) (n : Nat) (t0 : AV) (H : AHeap) : VE prim (n + 1) n243 [t0] H = S243_0 (VE prim n) t0 H :=
 (evH_at (tab := V_tab) (s := S243) hp (tabX_at (by kernel_rfl)) _ _).trans (by simp only [S243, argA1_at])
theorem U246 (hp : prim n246 = none) (n : Nat) (t0 : AV) (H : AHeap) : VE prim (n + 1) n246 [t0] H = S246_0 (VE prim n) t0 H :=
 (evH_at (tab := V_tab) (s := S246) hp (tabX_at (by kernel_rfl)) _ _).trans (by simp only [S246, argA1_at])
theorem U247 (hp : prim n247 = none) (n : Nat) (t0 t1 : AV) (H : AHeap) : VE prim (n + 1) n247 [t0, t1] H = S247_0 (VE prim n) t0 t1 H :=
 (evH_at (tab := V_tab) (s := S247) hp (tabX_at (by kernel_rfl)) _ _).trans (by simp only [S247, argA2_at])
theorem U248 (hp : prim n248 = none) (n : Nat) (t0 : AV) (H : AHeap) : VE prim (n + 1) n248 [t0] H = S248_2 (VE prim n) t0 H :=
 (evH_at (tab := V_tab) (s := S248) hp (tabX_at (by kernel_rfl)) _ _).trans (by simp only [S248, argA1_at])
theorem U249 (hp : prim n249 = none) (n : Nat) (t0 : AV) (H : AHeap) : VE prim (n + 1) n249 [t0] H = S249_1 (VE prim n) t0 H :=
 (evH_at (tab := V_tab) (s := S249) hp (tabX_at (by kernel_rfl)) _ _).trans (by simp only [S249, argA1_at])
theorem U250 (hp : prim n250 = none) (n : Nat) (t0 : AV) (H : AHeap) : VE prim (n + 1) n250 [t0] H = S250_0 (VE prim n) t0 H :=
 (evH_at (tab := V_tab) (s := S250) hp (tabX_at (by kernel_rfl)) _ _).trans (by simp only [S250, argA1_at])
theorem U253 (hp : prim n253 = none) (n : Nat) (t0 t1 : AV) (H : AHeap) : VE prim (n + 1) n253 [t0, t1] H = S253_0 (VE prim n) t0 t1 H :=
 (evH_at (tab := V_tab) (s := S253) hp (tabX_at (by kernel_rfl)) _ _).trans (by simp only [S253, argA2_at])
theorem U255 (hp : prim n255 = none) (n : Nat) (t0 : AV) (H : AHeap) : VE prim (n + 1) n255 [t0] H = S255_0 (VE prim n) t0 H :=
 (evH_at (tab := V_tab) (s := S255) hp (tabX_at (by kernel_rfl)) _ _).trans (by simp only [S255, argA1_at])
theorem U256 (hp : prim n256 = none) (n : Nat) (t0 t1 : AV) (H : AHeap) : VE prim (n + 1) n256 [t0, t1] H = S256_0 (VE prim n) t0 t1 H :=
 (evH_at (tab := V_tab) (s := S256) hp (tabX_at (by kernel_rfl)) _ _).trans (by simp only [S256, argA2_at])
theorem U257 (hp : prim n257 = none) (n : Nat) (t0 : AV) (H : AHeap) : VE prim (n + 1) n257 [t0] H = S257_1 (VE prim n) t0 H :=
 (evH_at (tab := V_tab) (s := S257) hp (tabX_at (by kernel_rfl)) _ _).trans (by simp only [S257, argA1_at])
theorem U258 (hp : prim n258 = none) (n : Nat) (t0 t1 : AV) (H : AHeap) : VE prim (n + 1) n258 [t0, t1] H = S258_0 (VE prim n) t0 t1 H :=
 (evH_at (tab := V_tab) (s := S258) hp (tabX_at (by kernel_rfl)) _ _).trans (by simp only [S258, argA2_at])
theorem U259 (hp : prim n259 = none) (n : Nat) (t0 : AV) (H : AHeap) : VE prim (n + 1) n259 [t0] H = S259_0 (VE prim n) t0 H :=
 (evH_at (tab := V_tab) (s := S259) hp (tabX_at (by kernel_rfl)) _ _).trans (by simp only [S259, argA1_at])
theorem U260 (hp : prim n260 = none) (n : Nat) (t0 t1 : AV) (H : AHeap) : VE prim (n + 1) n260 [t0, t1] H = S260_0 (VE prim n) t0 t1 H :=
 (evH_at (tab := V_tab) (s := S260) hp (tabX_at (by kernel_rfl)) _ _).trans (by simp only [S260, argA2_at])
theorem U261 (hp : prim n261 = none) (n : Nat) (t0 t1 t2 : AV) (H : AHeap) : VE prim (n + 1) n261 [t0, t1, t2] H = S261_0 (VE prim n) t0 t1 t2 H :=
 (evH_at (tab := V_tab) (s := S261) hp (tabX_at (by kernel_rfl)) _ _).trans (by simp only [S261, argA3_at])
theorem U262 (hp : prim n262 = none) (n : Nat) (t0 t1 t2 : AV) (H : AHeap) : VE prim (n + 1) n262 [t0, t1, t2] H = S262_0 (VE prim n) t0 t1 t2 H :=
 (evH_at (tab := V_tab) (s := S262) hp (tabX_at (by kernel_rfl)) _ _).trans (by simp only [S262, argA3_at])
theorem U263 (hp : prim n263 = none) (n : Nat) (t0 t1 t2 : AV) (H : AHeap) : VE prim (n + 1) n263 [t0, t1, t2] H = S263_0 (VE prim n) 1000000 t0 t1 .nilsl t2 (.int .i64 (.ofNat 0)) H :=
 (evH_at (tab := V_tab) (s := S263) hp (tabX_at (by kernel_rfl)) _ _).trans (by simp only [S263, argA3_at])
theorem U266 (hp : prim n266 = none) (n : Nat) (t0 : AV) (H : AHeap) : VE prim (n + 1) n266 [t0] H = S266_2 (VE prim n) t0 H :=
 (evH_at (tab := V_tab) (s := S266) hp (tabX_at (by kernel_rfl)) _ _).trans (by simp only [S266, argA1_at])
theorem U363 (hp : prim n363 = none) (n : Nat) (t0 t1 : AV) (H : AHeap) : VE prim (n + 1) n363 [t0, t1] H = S363_1 (VE prim n) t0 t1 H :=
 (evH_at (tab := V_tab) (s := S363) hp (tabX_at (by kernel_rfl)) _ _).trans (by simp only [S363, argA2_at])
theorem U365 (hp : prim n365 = none) (n : Nat) (t0 : AV) (H : AHeap) : VE prim (n + 1) n365 [t0] H = S365_0 (VE prim n) t0 H :=
 (evH_at (tab := V_tab) (s := S365) hp (tabX_at (by kernel_rfl)) _ _).trans (by simp only [S365, argA1_at])
theorem U366 (hp : prim n366 = none) (n : Nat) (t0 t1 t2 : AV) (H : AHeap) : VE prim (n + 1) n366 [t0, t1, t2] H = S366_2 (VE prim n) t0 t1 t2 H :=
 (evH_at (tab := V_tab) (s := S366) hp (tabX_at (by kernel_rfl)) _ _).trans (by simp only [S366, argA3_at])
theorem U367 (hp : prim n367 = none) (n : Nat) (t0 t1 : AV) (H : AHeap) : VE prim (n + 1) n367 [t0, t1] H = S367_0 (VE prim n) t0 t1 H :=
 (evH_at (tab := V_tab) (s := S367) hp (tabX_at (by kernel_rfl)) _ _).trans (by simp only [S367, argA2_at])
theorem U368 (hp : prim n368 = none) (n : Nat) (t0 t1 : AV) (H : AHeap) : VE prim (n + 1) n368 [t0, t1] H = S368_0 (VE prim n) t0 t1 H :=
 (evH_at (tab := V_tab) (s := S368) hp (tabX_at (by kernel_rfl)) _ _).trans (by simp only [S368, argA2_at])
theorem U369 (hp : prim n369 = none) (n : Nat) (t0 t1 : AV) (H : AHeap) : VE prim (n + 1) n369 [t0, t1] H = S369_0 (VE prim n) t0 t1 H :=
 (evH_at (tab := V_tab) (s := S369) hp (tabX_at (by kernel_rfl)) _ _).trans (by simp only [S369, argA2_at])
theorem U374 (hp : prim n374 = none) (n : Nat) (t0 t1 t2 t3 : AV) (H : AHeap) : VE prim (n + 1) n374 [t0, t1, t2, t3] H = S374_0 (VE prim n) t0 t1 t2 t3 H :=
 (evH_at (tab := V_tab) (s := S374) hp (tabX_at (by kernel_rfl)) _ _).trans (by simp only [S374, argA4_at])
theorem U377 (hp : prim n377 = none) (n : Nat) (t0 : AV) (H : AHeap) : VE prim (n + 1) n377 [t0] H = S377_1 (VE prim n) t0 H :=
 (evH_at (tab := V_tab) (s := S377) hp (tabX_at (by kernel_rfl)) _ _).trans (by simp only [S377, argA1_at])
theorem U378 (hp : prim n378 = none) (n : Nat) (t0 t1 : AV) (H : AHeap) : VE prim (n + 1) n378 [t0, t1] H = S378_0 (VE prim n) t0 t1 H :=
 (evH_at (tab := V_tab) (s := S378) hp (tabX_at (by kernel_rfl)) _ _).trans (by simp only [S378, argA2_at])
theorem U379 (hp : prim n379 = none) (n : Nat) (t0 t1 : AV) (H : AHeap) : VE prim (n + 1) n379 [t0, t1] H = S379_0 (VE prim n) t0 t1 H :=
 (evH_at (tab := V_tab) (s := S379) hp (tabX_at (by kernel_rfl)) _ _).trans (by simp only [S379, argA2_at])
theorem U510 (hp : prim n510 = none) (n : Nat) (t0 : AV) (H : AHeap) : VE prim (n + 1) n510 [t0] H = S510_3 (VE prim n) t0 H :=
 (evH_at (tab := V_tab) (s := S510) hp (tabX_at (by kernel_rfl)) _ _).trans (by simp only [S510, argA1_at])
theorem U511 (hp : prim n511 = none) (n : Nat) (t0 t1 : AV) (H : AHeap) : VE prim (n + 1) n511 [t0, t1] H = S511_0 (VE prim n) t0 t1 H :=
 (evH_at (tab := V_tab) (s := S511) hp (tabX_at (by kernel_rfl)) _ _).trans (by simp only [S511, argA2_at])
theorem U512 (hp : prim n512 = none) (n : Nat) (t0 : AV) (H : AHeap) : VE prim (n + 1) n512 [t0] H = S512_0 (VE prim n) t0 H :=
 (evH_at (tab := V_tab) (s := S512) hp (tabX_at (by kernel_rfl)) _ _).trans (by simp only [S512, argA1_at])
theorem U513 (hp : prim n513 = none) (n : Nat) (t0 t1 : AV) (H : AHeap) : VE prim (n + 1) n513 [t0, t1] H = S513_6 (VE prim n) t0 t1 H :=
 (evH_at (tab := V_tab) (s := S513) hp (tabX_at (by kernel_rfl)) _ _).trans (by simp only [S513, argA2_at])
theorem L10_1 (call : CallFn) (n : Nat) (t6 t8 t10 t23 t24 t25 : AV) (H : AHeap) : S10_1 call (n + 1) t6 t8 t10 t23 t24 t25 H = pLss t25 t24 H fun t26 H =>
 onBool t26 (pIa 1 t23 t25 H fun t27 H =>
 ldK .none H t27 fun t28 H =>
 pC call n21 [t8, t28] H fun t31 H =>
 pO (aUn .not t31) H fun t32 H =>
 onBool t32 (S10_0 call t6 t8 t10 H) (pAdd t10 (.int .i64 (.ofNat 1)) H fun t34 H =>
 pAdd t25 (.int .i64 (.ofNat 1)) H fun t35 H =>
 (S10_1 call n) t6 t8 t34 t23 t24 t35 H)) (S10_0 call t6 t8 t10 H) := by kernel_rfl
theorem L12_0 (call : CallFn) (n : Nat) (t0 t1 t5 : AV) (H : AHeap) : S12_0 call (n + 1) t0 t1 t5 H = pO (aLen .sl H t0) H fun t13 H =>
 pLss t5 t13 H fun t14 H =>
 onBool t14 (pIa 1 t0 t5 H fun t19 H =>
 ldK .none H t19 fun t20 H =>
 pIa 1 t1 t5 H fun t23 H =>
 ldK .none H t23 fun t24 H =>
 pNeq t20 t24 H fun t25 H =>
 onBool t25 (some ((.bool false), H)) (pAdd t5 (.int .i64 (.ofNat 1)) H fun t16 H =>
 (S12_0 call n) t0 t1 t16 H)) (some ((.bool true), H)) := by kernel_rfl
theorem L13_1 (call : CallFn) (n : Nat) (t1 t2 t3 t8 t10 t12 t13 : AV) (H : AHeap) : S13_1 call (n + 1) t1 t2 t3 t8 t10 t12 t13 H = pLss t13 t3 H fun t27 H =>
 onBool t27 (pMul (.int .u32 (.ofNat 1664525)) t2 H fun t31 H =>
 pAdd t31 (.int .u32 (.ofNat 1013904223)) H fun t32 H =>
 pO (aBin .shr t32 (.int .u64 (.ofNat 8))) H fun t35 H =>
 pConv .i64 t35 H fun t36 H =>
 pN (aBsl 1 1 [(.int .i64 (.ofNat 0))] [(0, 1, t36)]) H fun t37 H =>
 pW (aApp 1 8 H t12 t37) fun t38 H =>
 pAdd t13 (.int .i64 (.ofNat 1)) H fun t29 H =>
 (S13_1 call n) t1 t32 t3 t8 t10 t38 t29 H) (S13_0 call t1 t8 t10 t12 H) := by kernel_rfl
theorem L158_1 (call : CallFn) (n : Nat) (t0 t1 t5 t6 : AV) (H : AHeap) : S158_1 call (n + 1) t0 t1 t5 t6 H = pO (aLen .sl H t0) H fun t18 H =>
 pLss t6 t18 H fun t19 H =>
 onBool t19 (pIa 1 t0 t6 H fun t24 H =>
 ldK .none H t24 fun t25 H =>
 pV call t1 [t25] H fun t28 H =>
 pO (aUn .not t28) H fun t29 H =>
 onBool t29 (pIa 1 t0 t5 H fun t33 H =>
 stK 1 H t33 t25 fun _ H =>
 pAdd t5 (.int .i64 (.ofNat 1)) H fun t35 H =>
 S158_2 call (S158_1 call n) t0 t1 t35 t6 H) (S158_2 call (S158_1 call n) t0 t1 t5 t6 H)) (S158_0 call t0 t5 H) := by kernel_rfl
theorem L165_0 (call : CallFn) (n : Nat) (t0 t7 t8 : AV) (H : AHeap) : S165_0 call (n + 1) t0 t7 t8 H = pLss t8 t7 H fun t9 H =>
 onBool t9 (pO (aNil t0) H fun t12 H =>
 pFa 1 t12 H fun t13 H =>
 ldK .none H t13 fun t14 H =>
 pO (aNil t0) H fun t17 H =>
 pFa 0 t17 H fun t18 H =>
 ldK .none H t18 fun t19 H =>
 pC call n253 [t19, t8] H fun t21 H =>
 andR (andB (ckV (aLoad .none H t13) t14) true) (
 pNeq t21 (.int .i64 (.negSucc 0)) H fun t22 H =>
 pIa 1 t14 t8 H fun t23 H =>
 stK 1 H t23 t22 fun _ H =>
 pAdd t8 (.int .i64 (.ofNat 1)) H fun t24 H =>
 (S165_0 call n) t0 t7 t24 H)) (some (.tup [], H)) := by kernel_rfl
theorem L166_0 (call : CallFn) (n : Nat) (t0 t8 t9 t10 : AV) (H : AHeap) : S166_0 call (n + 1) t0 t8 t9 t10 H = pLss t10 t9 H fun t11 H =>
 onBool t11 (pIa 1 t8 t10 H fun t13 H =>
 ldK .none H t13 fun t14 H =>
 onBool t14 (pC call n254 [t0, t10] H fun _ H =>
 some ((.bool true), H)) (pAdd t10 (.int .i64 (.ofNat 1)) H fun t19 H =>
 (S166_0 call n) t0 t8 t9 t19 H)) (some ((.bool false), H)) := by kernel_rfl
theorem L167_0 (call : CallFn) (n : Nat) (t0 t3 t9 t10 : AV) (H : AHeap) : S167_0 call (n + 1) t0 t3 t9 t10 H = pLss t10 t9 H fun t11 H =>
 onBool t11 (pO (aNil t0) H fun t15 H =>
 pFa 0 t15 H fun t16 H =>
 ldK .none H t16 fun t17 H =>
 pO (aNil t0) H fun t22 H =>
 pFa 0 t22 H fun t23 H =>
 ldK .none H t23 fun t24 H =>
 pC call n256 [t17, t10] H fun t19 H =>
 andR (andB (ckV (aLoad .none H t23) t24) true) (
 pC call n255 [t19] H fun t20 H =>
 andR (andB (ckV (aLoad .none H t23) t24) true) (
 pC call n253 [t24, t10] H fun t26 H =>
 pC call n257 [t26] H fun t27 H =>
 pMul t20 t27 H fun t28 H =>
 pAdd t3 t28 H fun t29 H =>
 pAdd t10 (.int .i64 (.ofNat 1)) H fun t30 H =>
 (S167_0 call n) t0 t29 t9 t30 H))) (some (t3, H)) := by kernel_rfl
theorem L168_0 (call : CallFn) (n : Nat) (t0 t7 t8 : AV) (H : AHeap) : S168_0 call (n + 1) t0 t7 t8 H = pLss t8 t7 H fun t9 H =>
 onBool t9 (pO (aNil t0) H fun t12 H =>
 pFa 1 t12 H fun t13 H =>
 ldK .none H t13 fun t14 H =>
 pIa 3 t14 t8 H fun t16 H =>
 pFa 2 t16 H fun t17 H =>
 stK 1 H t17 (.int .u64 (.ofNat 0)) fun _ H =>
 pAdd t8 (.int .i64 (.ofNat 1)) H fun t18 H =>
 (S168_0 call n) t0 t7 t18 H) (some (.tup [], H)) := by kernel_rfl
theorem L169_0 (call : CallFn) (n : Nat) (t0 t6 t7 t8 : AV) (H : AHeap) : S169_0 call (n + 1) t0 t6 t7 t8 H = pLss t8 t7 H fun t9 H =>
 onBool t9 (pIa 1 t6 t8 H fun t10 H =>
 ldK .none H t10 fun t11 H =>
 pO (aNil t0) H fun t13 H =>
 pFa 3 t13 H fun t14 H =>
 ldK .none H t14 fun t15 H =>
 pC call n252 [t15, t11] H fun _ H =>
 pAdd t8 (.int .i64 (.ofNat 1)) H fun t18 H =>
 (S169_0 call n) t0 t6 t7 t18 H) (some (.tup [], H)) := by kernel_rfl
theorem L185_0 (call : CallFn) (n : Nat) (t0 t1 t7 t8 : AV) (H : AHeap) : S185_0 call (n + 1) t0 t1 t7 t8 H = pLss t8 t7 H fun t9 H =>
 onBool t9 (pIa 1 t0 t8 H fun t14 H =>
 ldK .none H t14 fun t15 H =>
 pEql t1 t15 H fun t16 H =>
 onBool t16 (some (t8, H)) (pAdd t8 (.int .i64 (.ofNat 1)) H fun t18 H =>
 (S185_0 call n) t0 t1 t7 t18 H)) (some ((.int .i64 (.negSucc 0)), H)) := by kernel_rfl
theorem L241_0 (call : CallFn) (n : Nat) (t0 t1 t7 t8 : AV) (H : AHeap) : S241_0 call (n + 1) t0 t1 t7 t8 H = pLss t8 t7 H fun t9 H =>
 onBool t9 (pIa 1 t0 t8 H fun t14 H =>
 ldK .none H t14 fun t15 H =>
 pV call t1 [t15] H fun t16 H =>
 onBool t16 (some (t8, H)) (pAdd t8 (.int .i64 (.ofNat 1)) H fun t18 H =>
 (S241_0 call n) t0 t1 t7 t18 H)) (some ((.int .i64 (.negSucc 0)), H)) := by kernel_rfl
theorem L248_0 (call : CallFn) (n : Nat) (t0 t3 t4 : AV) (H : AHeap) : S248_0 call (n + 1) t0 t3 t4 H = pO (aLen .sl H t0) H fun t14 H =>
 pLss t4 t14 H fun t15 H =>
 onBool t15 (pIa 1 t0 t4 H fun t21 H =>
 ldK .none H t21 fun t22 H =>
 pO (aMinMax false t3 t22) H fun t23 H =>
 pAdd t4 (.int .i64 (.ofNat 1)) H fun t17 H =>
 (S248_0 call n) t0 t23 t17 H) (some (t3, H)) := by kernel_rfl
theorem L263_0 (call : CallFn) (n : Nat) (t0 t1 t7 t9 t10 : AV) (H : AHeap) : S263_0 call (n + 1) t0 t1 t7 t9 t10 H = pLss t10 t9 H fun t11 H =>
 onBool t11 (pO (aNil t0) H fun t15 H =>
 pFa 2 t15 H fun t16 H =>
 ldK .none H t16 fun t17 H =>
 pAdd t1 t10 H fun t20 H =>
 pC call n176 [t17, t20] H fun t21 H =>
 pN (aBsl 1 1 [(.int .i64 (.ofNat 0))] [(0, 1, t21)]) H fun t22 H =>
 pW (aApp 1 8 H t7 t22) fun t23 H =>
 pAdd t10 (.int .i64 (.ofNat 1)) H fun t24 H =>
 (S263_0 call n) t0 t1 t23 t9 t24 H) (some (t7, H)) := by kernel_rfl
theorem L510_0 (call : CallFn) (n : Nat) (t0 t3 t9 t10 t11 : AV) (H : AHeap) : S510_0 call (n + 1) t0 t3 t9 t10 t11 H = pLss t11 t10 H fun t12 H =>
 onBool t12 (pIa 1 t9 t11 H fun t14 H =>
 ldK .none H t14 fun t15 H =>
 pO (aNil t0) H fun t17 H =>
 pFa 0 t17 H fun t18 H =>
 pFa 1 t18 H fun t19 H =>
 ldK .none H t19 fun t20 H =>
 pIa 1 t20 t11 H fun t22 H =>
 ldK .none H t22 fun t23 H =>
 guardA t23 true (pNeq t15 (.int .i64 (.ofNat 0)) H fun t26 H =>
 S510_2 call (S510_0 call n) t0 t3 t15 t9 t10 t11 t23 t26 H) (S510_2 call (S510_0 call n) t0 t3 t15 t9 t10 t11 t23 U H)) (some (t3, H)) := by kernel_rfl
theorem L513_2 (call : CallFn) (q0 : AV → AV → AV → AV → AV → AHeap → R) (n : Nat) (t3 t5 t7 t8 t14 t15 t16 t44 t45 t46 : AV) (H : AHeap) : S513_2 call q0 (n + 1) t3 t5 t7 t8 t14 t15 t16 t44 t45 t46 H = pLss t46 t45 H fun t47 H =>
 onBool t47 (pIa 1 t44 t46 H fun t49 H =>
 ldK .none H t49 fun t50 H =>
 pFa 1 t7 H fun t52 H =>
 ldK .none H t52 fun t53 H =>
 pIa 1 t8 t53 H fun t54 H =>
 ldK .none H t54 fun t55 H =>
 pConv .u64 t46 H fun t57 H =>
 pO (aBin .shr t55 t57) H fun t58 H =>
 pAnd t58 (.int .u64 (.ofNat 1)) H fun t59 H =>
 pEql t59 (.int .u64 (.ofNat 1)) H fun t60 H =>
 guardA t60 true (pNeq t50 (.int .i64 (.ofNat 0)) H fun t63 H =>
 S513_4 call (S513_2 call q0 n) t3 t5 t7 t8 t50 t14 t15 t16 t44 t45 t46 t60 t63 H) (S513_4 call (S513_2 call q0 n) t3 t5 t7 t8 t50 t14 t15 t16 t44 t45 t46 t60 U H)) (S513_1 call q0 t3 t5 t14 t15 t16 H) := by kernel_rfl
theorem L513_0 (call : CallFn) (n : Nat) (t3 t5 t14 t15 t16 : AV) (H : AHeap) : S513_0 call (n + 1) t3 t5 t14 t15 t16 H = pLss t16 t15 H fun t17 H =>
 onBool t17 (pIa 3 t14 t16 H fun t18 H =>
 ldK (.some 3) H t18 fun t19 H =>
 pNew [(.int .i64 (.ofNat 0)), (.int .i64 (.ofNat 0)), .nilsl] H fun t7 H =>
 stK 3 H t7 t19 fun _ H =>
 pFa 0 t7 H fun t20 H =>
 ldK .none H t20 fun t21 H =>
 pFa 4 t3 H fun t22 H =>
 ldK .none H t22 fun t23 H =>
 pO (aLen .sl H t23) H fun t24 H =>
 pGeq t21 t24 H fun t25 H =>
 onBool t25 (S513_1 call (S513_0 call n) t3 t5 t14 t15 t16 H) (pFa 4 t3 H fun t26 H =>
 ldK .none H t26 fun t27 H =>
 pFa 0 t7 H fun t28 H =>
 ldK .none H t28 fun t29 H =>
 pIa 7 t27 t29 H fun t30 H =>
 pFa 6 t30 H fun t31 H =>
 ldK .none H t31 fun t32 H =>
 pFa 1 t7 H fun t33 H =>
 ldK .none H t33 fun t34 H =>
 pLss t34 (.int .i64 (.ofNat 0)) H fun t35 H =>
 guardA t35 false (pFa 1 t7 H fun t37 H =>
 ldK .none H t37 fun t38 H =>
 pO (aLen .sl H t32) H fun t40 H =>
 pGeq t38 t40 H fun t41 H =>
 S513_5 call (S513_0 call n) t3 t5 t7 t32 t14 t15 t16 t35 t41 H) (S513_5 call (S513_0 call n) t3 t5 t7 t32 t14 t15 t16 t35 U H))) (some (t5, H)) := by kernel_rfl
end Go.Proofs.YtlmcgeiacfbdnaaGreatDoor
