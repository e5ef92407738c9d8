/- They stand for their bodies. -/
import Derived.Test.YtlmcgeiacfbdnaaGreatDoorVF
import Derived.Test.YtlmcgeiacfbdnaaGreatDoorA2
import Derived.KernelRfl
namespace Go.Proofs.YtlmcgeiacfbdnaaGreatDoor
open Go.Ab
set_option maxRecDepth 100000
theorem S3_ok : SO n3 S3 :=
 st3 57 [.tmp 6] fun call => (cv _ (sq (sq (sq (sq (sq (sq (cv (fun e H => S3_0 call e.x0.x0 e.x0.x1 e.x0.x2 e.x0.x7 H) se) (sq (bl (lp (fun n e H => S3_1 call n e.x0.x0 e.x0.x1 e.x0.x2 e.x0.x7 e.x0.x8 e.x0.x9 H) fun n0 => cv _ (sq (sq (cv (fun e H => S3_2 call (S3_1 call n0) e.x0.x0 e.x0.x1 e.x0.x2 e.x0.x7 e.x0.x8 e.x0.x9 H) se) (bl (sq (cv (fun e H => S3_3 call (S3_1 call n0) e.x0.x0 e.x0.x1 e.x0.x2 e.x0.x7 e.x0.x8 e.x0.x9 H) se) (sq (bl (lp (fun n e H => S3_4 call (S3_1 call n0) n e.x0.x0 e.x0.x1 e.x0.x2 e.x0.x7 e.x0.x8 e.x0.x9 e.x0.x10 H) fun _ => cv _ se)) se)))) se))) se)) se) se) (sq se (sq (sq (cv (fun e H => S3_7 call e.x0.x0 e.x0.x1 e.x0.x2 e.x0.x15 e.x0.x17 H) (sq (sq (cv (fun e H => S3_6 call e.x0.x0 e.x0.x1 e.x0.x2 e.x0.x19 e.x1.x1 H) (sq (sq (cv (fun e H => S3_5 call e.x0.x0 e.x0.x1 e.x0.x2 e.x1.x3 e.x1.x5 H) se) se) se)) se) se)) se) se))) se) se))
theorem S4_ok : SO n4 S4 :=
 st2 42 [.tmp 4] fun call => (cv _ (sq (sq (sq (sq (sq (cv (fun e H => S4_0 call e.x0.x0 e.x0.x1 e.x0.x5 H) se) (sq (bl (lp (fun n e H => S4_1 call n e.x0.x0 e.x0.x1 e.x0.x5 e.x0.x6 e.x0.x7 H) fun _ => cv _ se)) se)) se) (sq se (sq (sq (cv (fun e H => S4_2 call e.x0.x0 e.x0.x1 e.x0.x13 e.x0.x15 H) se) se) se))) se) se))
theorem S6_ok : SO n6 S6 :=
 st7 50 [.tmp 14] fun call => (cv _ (sq (sq (sq (sq (sq se (sq (sq (cv (fun e H => S6_1 call e.x0.x4 e.x0.x15 e.x1.x18 e.x2.x2 H) (sq (sq (cv (fun e H => S6_0 call e.x2.x4 e.x2.x8 H) se) se) se)) se) se)) se) se) se) se))
theorem S10_ok : SO n10 S10 :=
 st3 39 [.cell (.some 7) 6, .tmp 7] fun call => (cv _ (sq (sq (sq (sq (sq (cv (fun e H => S10_0 call e.x0.x6 e.x0.x8 e.x0.x10 H) se) (sq (bl (lp (fun n e H => S10_1 call n e.x0.x6 e.x0.x8 e.x0.x10 e.x1.x3 e.x1.x4 e.x1.x5 H) fun _ => cv _ se)) se)) se) se) se) se))
theorem S12_ok : SO n12 S12 :=
 st2 26 [.tmp 4] fun call => (cv _ (sq (sq (sq se (sq (bl (lp (fun n e H => S12_0 call n e.x0.x0 e.x0.x1 e.x0.x5 H) fun _ => cv _ se)) se)) se) se))
theorem S13_ok : SO n13 S13 :=
 st4 49 [.cell (.some 7) 8, .tmp 9] fun call => (cv _ (sq (sq (sq (sq (sq (cv (fun e H => S13_0 call e.x0.x1 e.x0.x8 e.x0.x10 e.x0.x12 H) se) (sq (bl (lp (fun n e H => S13_1 call n e.x0.x1 e.x0.x2 e.x0.x3 e.x0.x8 e.x0.x10 e.x0.x12 e.x0.x13 H) fun _ => cv _ se)) se)) se) se) se) se))
theorem S14_ok : SO n14 S14 :=
 st2 18 [.tmp 4] fun call => (cv _ (sq (sq se (sq (sq (cv (fun e H => S14_0 call e.x0.x10 e.x0.x16 H) se) se) se)) se))
theorem S21_ok : SO n21 S21 :=
 st2 55 [.tmp 4] fun call => (cv _ (sq (sq (sq (cv (fun e H => S21_0 call e.x0.x0 e.x0.x1 H) se) se) se) se))
theorem S22_ok : SO n22 S22 :=
 st2 27 [.cell (.some 7) 4] fun call => (cv _ se)
theorem S26_ok : SO n26 S26 :=
 st1 11 [.tmp 2] fun call => (cv _ (sq (sq se (sq (sq (cv (fun e H => S26_0 call e.x0.x5 e.x0.x9 H) se) se) se)) se))
theorem S28_ok : SO n28 S28 :=
 st2 33 [] fun call => (cv _ (sq (sq (cv (fun e H => S28_1 call e.x0.x0 e.x0.x3 H) (sq (bl (lp (fun n e H => S28_0 call n e.x0.x0 e.x1.x3 e.x1.x4 e.x1.x5 H) fun _ => cv _ se)) se)) se) se))
theorem S30_ok : SO n30 S30 :=
 st3 12 [] fun call => (cv _ se)
theorem S51_ok : SO n51 S51 :=
 st1 23 [] fun call => (cv _ (sq se (sq (sq (cv (fun e H => S51_10 call e.x0.x0 e.x0.x7 e.x0.x8 H) (sq (sq (cv (fun e H => S51_9 call e.x0.x0 e.x0.x7 e.x0.x9 H) (sq (sq (cv (fun e H => S51_8 call e.x0.x0 e.x0.x7 e.x0.x10 H) (sq (sq (cv (fun e H => S51_7 call e.x0.x0 e.x0.x7 e.x0.x11 H) (sq (sq (cv (fun e H => S51_6 call e.x0.x0 e.x0.x7 e.x0.x11 e.x0.x12 H) (sq (sq (cv (fun e H => S51_5 call e.x0.x0 e.x0.x7 e.x0.x11 e.x0.x13 H) (sq (sq (cv (fun e H => S51_4 call e.x0.x0 e.x0.x7 e.x0.x11 e.x0.x14 H) (sq (sq (cv (fun e H => S51_3 call e.x0.x0 e.x0.x7 e.x0.x11 e.x0.x15 H) (sq (sq (cv (fun e H => S51_2 call e.x0.x0 e.x0.x7 e.x0.x16 H) (sq (sq (cv (fun e H => S51_1 call e.x0.x0 e.x0.x7 e.x0.x17 H) (sq (sq (cv (fun e H => S51_0 call e.x0.x0 e.x0.x7 e.x0.x18 H) se) se) se)) se) se)) se) se)) se) se)) se) se)) se) se)) se) se)) se) se)) se) se)) se) se)) se) se)))
theorem S52_ok : SO n52 S52 :=
 st1 12 [.tmp 2, .tmp 3] fun call => (cv _ se)
theorem S53_ok : SO n53 S53 :=
 st1 17 [.tmp 2] fun call => (cv _ se)
theorem S54_ok : SO n54 S54 :=
 st1 23 [.tmp 2] fun call => (cv _ se)
theorem S55_ok : SO n55 S55 :=
 st3 112 [.tmp 6] fun call => (cv _ (sq (sq (sq (sq (sq (sq (sq (sq (sq (sq (cv (fun e H => S55_0 call e.x0.x0 H) se) (sq se (sq (sq (cv (fun e H => S55_2 call e.x0.x0 e.x0.x1 e.x0.x2 e.x0.x7 e.x0.x9 e.x0.x11 e.x3.x15 e.x4.x0 H) (sq (sq (cv (fun e H => S55_1 call e.x0.x0 e.x0.x1 e.x0.x2 e.x0.x7 e.x0.x9 e.x0.x11 e.x4.x2 e.x4.x7 H) se) se) se)) se) se))) se) se) se) se) se) se) (sq se (sq (sq (cv (fun e H => S55_3 call e.x0.x0 e.x0.x1 e.x0.x2 e.x0.x7 e.x1.x0 e.x1.x4 H) se) se) se))) se) se))
theorem S56_ok : SO n56 S56 :=
 st2 9 [.tmp 4] fun call => (cv _ se)
theorem S57_ok : SO n57 S57 :=
 st1 8 [.tmp 2] fun call => (cv _ se)
theorem S58_ok : SO n58 S58 :=
 st1 7 [.tmp 2] fun call => (cv _ se)
theorem S59_ok : SO n59 S59 :=
 st1 7 [.tmp 2] fun call => (cv _ se)
theorem S60_ok : SO n60 S60 :=
 st1 7 [.tmp 2] fun call => (cv _ se)
theorem S61_ok : SO n61 S61 :=
 st1 7 [.tmp 2] fun call => (cv _ se)
theorem S62_ok : SO n62 S62 :=
 st1 8 [.tmp 2] fun call => (cv _ se)
theorem S64_ok : SO n64 S64 :=
 st1 42 [.tmp 2] fun call => (cv _ (sq (sq (sq se (bl (lp (fun n e H => S64_0 call n e.x0.x0 e.x0.x3 H) fun n0 => cv _ (sq (bl (sq (bl (sq se (sq (sq (cv (fun e H => S64_3 call (S64_0 call n0) e.x0.x0 e.x0.x3 e.x0.x4 e.x0.x16 e.x0.x18 H) (sq (sq (cv (fun e H => S64_2 call (S64_0 call n0) e.x0.x0 e.x0.x3 e.x0.x4 e.x1.x0 e.x1.x2 H) (sq (sq (cv (fun e H => S64_1 call (S64_0 call n0) e.x0.x0 e.x0.x3 e.x1.x4 e.x1.x6 H) se) se) se)) se) se)) se) se))) se)) se)))) se) se))
theorem S65_ok : SO n65 S65 :=
 st1 64 [.cell (.some 3) 2] fun call => (cv _ (sq (sq (sq (cv (fun e H => S65_0 call e.x0.x2 H) se) (sq (bl (lp (fun n e H => S65_1 call n e.x0.x0 e.x0.x2 e.x2.x11 e.x2.x12 e.x2.x13 H) fun _ => cv _ se)) se)) (bl (sq (cn (sq (sq (cv (fun e H => S65_2 call e.x0.x2 e.x0.x3 H) se) se) se) (sq (cn (sq (sq se (sq (sq se (sq (sq (cv (fun e H => S65_3 call e.x0.x2 e.x0.x4 e.x2.x5 e.x2.x7 H) se) se) se)) se)) se) se) se)) se))) se))
theorem S66_ok : SO n66 S66 :=
 st2 10 [.cell (.some 4) 4] fun call => (cv _ se)
theorem S67_ok : SO n67 S67 :=
 st1 13 [.cell (.some 3) 2] fun call => (cv _ se)
theorem S69_ok : SO n69 S69 :=
 st1 64 [.tmp 2] fun call => (cv _ (sq (sq (sq (sq se (sq (bl (lp (fun n e H => S69_0 call n e.x0.x3 e.x2.x0 e.x2.x1 e.x2.x2 H) fun n0 => cv _ (sq (sq (sq se (bl (sq (sq (sq (cv (fun e H => S69_1 call (S69_0 call n0) e.x0.x3 e.x0.x6 e.x0.x7 e.x2.x0 e.x2.x1 e.x2.x2 H) se) se) se) se))) se) se))) se)) (sq se (sq (sq (cv (fun e H => S69_5 call e.x0.x1 e.x0.x3 e.x0.x16 e.x1.x3 H) (sq (sq (cv (fun e H => S69_4 call e.x0.x1 e.x0.x3 e.x1.x5 e.x1.x9 H) (sq (sq (cv (fun e H => S69_3 call e.x0.x1 e.x0.x3 e.x1.x5 e.x1.x9 e.x1.x16 H) (sq (sq (cv (fun e H => S69_2 call e.x0.x1 e.x0.x3 e.x1.x5 e.x1.x17 H) se) se) se)) se) se)) se) se)) se) se))) se) se))
theorem S70_ok : SO n70 S70 :=
 st2 9 [.tmp 4] fun call => (cv _ se)
theorem S71_ok : SO n71 S71 :=
 st1 6 [.tmp 2] fun call => (cv _ se)
theorem S72_ok : SO n72 S72 :=
 st2 19 [.tmp 4] fun call => (cv _ (sq (sq se (sq (bl (lp (fun n e H => S72_0 call n e.x0.x0 e.x0.x1 e.x0.x7 e.x0.x8 H) fun _ => cv _ se)) se)) se))
theorem S78_ok : SO n78 S78 :=
 st1 11 [.tmp 2] fun call => (cv _ (sq (sq se (sq (sq (cv (fun e H => S78_0 call e.x0.x6 e.x0.x9 H) se) se) se)) se))
theorem S80_ok : SO n80 S80 :=
 st2 63 [.tmp 4] fun call => (cv _ (sq (sq (cv (fun e H => S80_0 call e.x0.x0 e.x0.x1 H) se) (sq (bl (lp (fun n e H => S80_1 call n e.x0.x0 e.x0.x1 e.x0.x10 e.x0.x11 e.x0.x12 H) fun n0 => cv _ (sq (sq (sq se (bl (sq (sq se (sq (sq (cv (fun e H => S80_2 call (S80_1 call n0) e.x0.x0 e.x0.x1 e.x0.x5 e.x0.x10 e.x0.x11 e.x0.x12 e.x0.x19 e.x1.x8 H) se) se) se)) se))) se) se))) se)) se))
theorem S83_ok : SO n83 S83 :=
 st2 21 [.tmp 4] fun call => (cv _ se)
theorem S88_ok : SO n88 S88 :=
 st2 45 [.tmp 4, .tmp 5] fun call => (cv _ (sq (sq se (sq se (sq (sq (cv (fun e H => S88_3 call e.x0.x2 e.x0.x3 e.x0.x9 e.x0.x12 H) (sq (sq (cv (fun e H => S88_2 call e.x0.x2 e.x0.x3 e.x0.x14 e.x0.x17 H) (sq (sq (cv (fun e H => S88_1 call e.x0.x2 e.x0.x3 e.x0.x19 e.x1.x5 H) (sq (sq (cv (fun e H => S88_0 call e.x0.x3 e.x1.x7 e.x1.x16 H) se) se) se)) se) se)) se) se)) se) se))) se))
theorem S98_ok : SO n98 S98 :=
 st1 8 [.tmp 2] fun call => (cv _ se)
theorem S104_ok : SO n104 S104 :=
 st2 9 [.tmp 4] fun call => (cv _ se)
theorem S105_ok : SO n105 S105 :=
 st2 81 [.tmp 4] fun call => (cv _ se)
theorem S106_ok : SO n106 S106 :=
 st2 26 [.tmp 4] fun call => (cv _ se)
theorem S107_ok : SO n107 S107 :=
 st2 20 [.tmp 4] fun call => (cv _ se)
theorem S108_ok : SO n108 S108 :=
 st2 11 [.tmp 4] fun call => (cv _ se)
theorem S109_ok : SO n109 S109 :=
 st2 68 [.cell (.some 5) 4, .tmp 5] fun call => (cv _ (sq (sq (sq se (sq se (sq (sq (cv (fun e H => S109_32 call e.x0.x3 e.x0.x4 e.x0.x6 e.x0.x11 e.x0.x12 H) (sq (sq (cv (fun e H => S109_31 call e.x0.x3 e.x0.x4 e.x0.x6 e.x0.x11 e.x0.x13 H) (sq (sq (cv (fun e H => S109_30 call e.x0.x3 e.x0.x4 e.x0.x6 e.x0.x11 e.x0.x14 H) (sq (sq (cv (fun e H => S109_29 call e.x0.x3 e.x0.x4 e.x0.x6 e.x0.x11 e.x0.x15 H) (sq (sq (cv (fun e H => S109_28 call e.x0.x3 e.x0.x4 e.x0.x6 e.x0.x11 e.x0.x16 H) (sq (sq (cv (fun e H => S109_27 call e.x0.x3 e.x0.x4 e.x0.x6 e.x0.x18 e.x0.x19 H) (sq (sq (cv (fun e H => S109_26 call e.x0.x3 e.x0.x4 e.x0.x6 e.x0.x18 e.x1.x0 H) (sq (sq (cv (fun e H => S109_25 call e.x0.x3 e.x0.x4 e.x0.x6 e.x0.x18 e.x1.x1 H) (sq (sq (cv (fun e H => S109_24 call e.x0.x3 e.x0.x4 e.x0.x6 e.x0.x18 e.x1.x2 H) (sq (sq (cv (fun e H => S109_23 call e.x0.x3 e.x0.x4 e.x0.x6 e.x0.x18 e.x1.x2 e.x1.x3 H) (sq (sq (cv (fun e H => S109_22 call e.x0.x3 e.x0.x4 e.x0.x6 e.x0.x18 e.x1.x2 e.x1.x4 H) (sq (sq (cv (fun e H => S109_21 call e.x0.x3 e.x0.x4 e.x0.x6 e.x0.x18 e.x1.x2 e.x1.x5 H) (sq (sq (cv (fun e H => S109_20 call e.x0.x3 e.x0.x4 e.x0.x6 e.x0.x18 e.x1.x6 H) (sq (sq (cv (fun e H => S109_19 call e.x0.x3 e.x0.x4 e.x0.x6 e.x1.x8 e.x1.x9 H) (sq (sq (cv (fun e H => S109_18 call e.x0.x3 e.x0.x4 e.x0.x6 e.x1.x8 e.x1.x10 H) (sq (sq (cv (fun e H => S109_17 call e.x0.x3 e.x0.x4 e.x0.x6 e.x1.x8 e.x1.x11 H) (sq (sq (cv (fun e H => S109_16 call e.x0.x3 e.x0.x4 e.x0.x6 e.x1.x8 e.x1.x12 H) (sq (sq (cv (fun e H => S109_15 call e.x0.x3 e.x0.x4 e.x0.x6 e.x1.x8 e.x1.x13 H) (sq (sq (cv (fun e H => S109_14 call e.x0.x3 e.x0.x4 e.x0.x6 e.x1.x15 e.x1.x16 H) (sq (sq (cv (fun e H => S109_13 call e.x0.x3 e.x0.x4 e.x0.x6 e.x1.x15 e.x1.x17 H) (sq (sq (cv (fun e H => S109_12 call e.x0.x3 e.x0.x4 e.x0.x6 e.x1.x15 e.x1.x18 H) (sq (sq (cv (fun e H => S109_11 call e.x0.x3 e.x0.x4 e.x0.x6 e.x1.x15 e.x1.x19 H) (sq (sq (cv (fun e H => S109_10 call e.x0.x3 e.x0.x4 e.x0.x6 e.x1.x15 e.x1.x19 e.x2.x0 H) (sq (sq (cv (fun e H => S109_9 call e.x0.x3 e.x0.x4 e.x0.x6 e.x1.x15 e.x1.x19 e.x2.x1 H) (sq (sq (cv (fun e H => S109_8 call e.x0.x3 e.x0.x4 e.x0.x6 e.x1.x15 e.x1.x19 e.x2.x1 e.x2.x2 H) (sq (sq (cv (fun e H => S109_7 call e.x0.x3 e.x0.x4 e.x0.x6 e.x1.x15 e.x1.x19 e.x2.x1 e.x2.x3 H) (sq (sq (cv (fun e H => S109_6 call e.x0.x3 e.x0.x4 e.x0.x6 e.x1.x15 e.x1.x19 e.x2.x1 e.x2.x4 H) (sq (sq (cv (fun e H => S109_5 call e.x0.x3 e.x0.x4 e.x0.x6 e.x1.x15 e.x1.x19 e.x2.x1 e.x2.x5 H) (sq (sq (cv (fun e H => S109_4 call e.x0.x3 e.x0.x4 e.x0.x6 e.x1.x15 e.x1.x19 e.x2.x6 H) (sq (sq (cv (fun e H => S109_3 call e.x0.x3 e.x0.x4 e.x0.x6 e.x1.x15 e.x1.x19 e.x2.x7 H) (sq (sq (cv (fun e H => S109_2 call e.x0.x3 e.x0.x4 e.x0.x6 e.x1.x15 e.x1.x19 e.x2.x8 H) (sq (sq (cv (fun e H => S109_1 call e.x0.x3 e.x0.x4 e.x0.x6 e.x1.x15 e.x1.x19 e.x2.x9 H) (sq (sq (cv (fun e H => S109_0 call e.x0.x3 e.x0.x4 e.x0.x6 e.x1.x15 e.x2.x10 H) se) se) se)) se) se)) se) se)) se) se)) se) se)) se) se)) se) se)) se) se)) se) se)) se) se)) se) se)) se) se)) se) se)) se) se)) se) se)) se) se)) se) se)) se) se)) se) se)) se) se)) se) se)) se) se)) se) se)) se) se)) se) se)) se) se)) se) se)) se) se)) se) se)) se) se)) se) se)) se) se)) se) se))) se) se))
theorem S110_ok : SO n110 S110 :=
 st1 14 [.cell (.some 3) 2, .tmp 3] fun call => (cv _ se)
theorem S111_ok : SO n111 S111 :=
 st2 23 [.tmp 4] fun call => (cv _ (sq (sq se (sq (sq (cv (fun e H => S111_4 call e.x0.x0 e.x0.x1 e.x0.x7 e.x0.x9 H) (sq (sq (cv (fun e H => S111_3 call e.x0.x0 e.x0.x1 e.x0.x11 e.x0.x13 H) (sq (sq (cv (fun e H => S111_2 call e.x0.x1 e.x0.x15 e.x0.x18 H) (sq (sq (cv (fun e H => S111_1 call e.x0.x15 e.x0.x18 e.x1.x0 H) (sq (sq (cv (fun e H => S111_0 call e.x0.x15 e.x1.x1 H) se) se) se)) se) se)) se) se)) se) se)) se) se)) se))
theorem S112_ok : SO n112 S112 :=
 st1 8 [.tmp 2] fun call => (cv _ se)
theorem S113_ok : SO n113 S113 :=
 st1 98 [] fun call => (cv _ (sq (bl (sq (cn se (sq (cn se (sq (cn se (sq (cn se (sq (cn (sq (cv (fun e H => S113_0 call e.x0.x0 H) se) se) se) se)) se)) (sq (sq (cv (fun e H => S113_3 call e.x0.x0 e.x0.x2 e.x1.x7 e.x1.x9 H) (sq (sq (cv (fun e H => S113_2 call e.x0.x0 e.x0.x2 e.x1.x11 e.x1.x13 H) (sq (sq (cv (fun e H => S113_1 call e.x0.x0 e.x0.x2 e.x1.x15 e.x1.x17 H) se) se) se)) se) se)) se) se))) se)) (sq (sq (cv (fun e H => S113_4 call e.x0.x0 e.x0.x2 e.x0.x13 e.x0.x15 H) se) se) se))) se))
theorem S114_ok : SO n114 S114 :=
 st1 8 [.tmp 2] fun call => (cv _ se)
theorem S117_ok : SO n117 S117 :=
 st2 9 [.tmp 4] fun call => (cv _ se)
theorem S118_ok : SO n118 S118 :=
 st2 52 [.tmp 4] fun call => (cv _ se)
theorem S119_ok : SO n119 S119 :=
 st2 8 [.tmp 4] fun call => (cv _ se)
theorem S120_ok : SO n120 S120 :=
 st2 20 [.tmp 4] fun call => (cv _ (sq (sq (sq se (bl (lp (fun n e H => S120_0 call n e.x0.x0 e.x0.x1 e.x0.x5 H) fun n0 => cv _ (sq se (sq se (sq (sq (cv (fun e H => S120_1 call (S120_0 call n0) e.x0.x0 e.x0.x1 e.x0.x5 e.x0.x10 e.x0.x15 H) se) se) se)))))) se) se))
theorem S122_ok : SO n122 S122 :=
 st1 21 [.tmp 2] fun call => (cv _ (sq (sq se (sq (sq (cv (fun e H => S122_4 call e.x0.x0 e.x0.x5 e.x0.x7 H) (sq (sq (cv (fun e H => S122_3 call e.x0.x0 e.x0.x9 e.x0.x12 H) (sq (sq (cv (fun e H => S122_2 call e.x0.x0 e.x0.x9 e.x0.x12 e.x0.x14 H) (sq (sq (cv (fun e H => S122_1 call e.x0.x0 e.x0.x9 e.x0.x15 H) (sq (sq (cv (fun e H => S122_0 call e.x0.x17 e.x0.x19 H) se) se) se)) se) se)) se) se)) se) se)) se) se)) se))
theorem S123_ok : SO n123 S123 :=
 st1 9 [.tmp 2] fun call => (cv _ (sq (sq se (sq (sq (cv (fun e H => S123_0 call e.x0.x5 e.x0.x7 H) se) se) se)) se))
theorem S124_ok : SO n124 S124 :=
 st1 29 [.tmp 2] fun call => (cv _ (sq (sq se (sq (bl (sq (cv (fun e H => S124_0 call e.x0.x4 H) se) se)) se)) se))
theorem S125_ok : SO n125 S125 :=
 st1 9 [.tmp 2] fun call => (cv _ (sq (sq se (sq (sq (cv (fun e H => S125_0 call e.x0.x5 e.x0.x7 H) se) se) se)) se))
theorem S127_ok : SO n127 S127 :=
 st0 2 [.tmp 0] fun call => (cv _ se)
theorem S128_ok : SO n128 S128 :=
 st2 12 [.tmp 4] fun call => (cv _ se)
theorem S130_ok : SO n130 S130 :=
 st2 15 [.cell (.some 3) 4] fun call => (cv _ se)
theorem S131_ok : SO n131 S131 :=
 st2 27 [.tmp 4] fun call => (cv _ (sq (sq (sq se (sq (sq (cv (fun e H => S131_2 call e.x0.x1 e.x0.x5 e.x0.x11 e.x0.x14 H) (sq (sq (cv (fun e H => S131_1 call e.x0.x1 e.x0.x5 e.x0.x16 e.x0.x19 H) (sq (sq (cv (fun e H => S131_0 call e.x1.x1 e.x1.x5 H) se) se) se)) se) se)) se) se)) se) se))
end Go.Proofs.YtlmcgeiacfbdnaaGreatDoor
